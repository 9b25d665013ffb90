/- Texts of the claim, part 2. -/
import Derived.Sort.Walk0
import Derived.Test.YtkegepoihkhihaaGreatRows
import Derived.Test.YtkegepoihkhihaaGreatZFeed1

set_option linter.defProp false
def K9 := @Go.Proofs.Tryz.underlying9
def F7 := @Go.Proofs.Tryz.underlying102
def I2 := @Go.Proofs.Tryz.sizeOf101
def S7 := @Go.Proofs.Tryz.isAgg101
def E4 := @Go.Proofs.Tryz.underlying40
def D9 := @Go.Proofs.Tryz.sizeOf141
def J9 := @Go.Proofs.Tryz.isAgg141
def M1 := @Go.Proofs.Tryz.underlying26
def E1 := @Go.Proofs.Tryz.sizeOf43
def G7 := @Go.Proofs.Tryz.isAgg43
def E7 := @Go.Proofs.Tryz.underlying36
def G3 := @Go.Proofs.Tryz.sizeOf63
def P6 := @Go.Proofs.Tryz.isAgg63
def Q7 := @Go.Proofs.Tryz.underlying3
def E2 := @Go.Proofs.Tryz.underlying39
def F3 := @Go.Proofs.Tryz.sizeOf125
def R5 := @Go.Proofs.Tryz.isAgg125
def E5 := @Go.Proofs.Tryz.underlying99
def E3 := @Go.Proofs.Tryz.sizeOf9
def F5 := @Go.Proofs.Tryz.isAgg9
def H1 := @Go.Proofs.Tryz.underlying63
def B9 := @Go.Proofs.Tryz.sizeOf3
def C1 := @Go.Proofs.Tryz.isAgg3
def K2 := @Go.Proofs.Tryz.sizeOf4
def K7 := @Go.Proofs.Tryz.isAgg4
def I0 := @Go.Proofs.Tryz.underlying101
def F8 := @Go.Proofs.Tryz.underlying125
def M8 := @Go.Proofs.Tryz.sizeOf123
def P1 := @Go.Proofs.Tryz.isAgg123
def I7 := @Go.Proofs.Tryz.underlying123
def L1 := @Go.Proofs.Tryz.sizeOf127
def Y6 := @Go.Proofs.Tryz.isAgg127
def J6 := @Go.Proofs.Tryz.underlying127
def C0 := @Go.Proofs.Tryz.underlying104
def N3 := @Go.Proofs.Tryz.sizeOf99
def P7 := @Go.Proofs.Tryz.isAgg99
def K4 := @Go.Proofs.Tryz.sizeOf102
def L2 := @Go.Proofs.Tryz.isAgg102
def V5 := @Go.Proofs.Tryz.underlying4
def E8 := @Go.Proofs.Tryz.underlying141
def N5 := @Go.Proofs.Tryz.sizeOf104
def Y7 := @Go.Proofs.Tryz.isAgg104
def D2 := @Go.Proofs.Tryz.underlying43
def M4 := @Go.Proofs.Tryz.sizeOf39
def O9 := @Go.Proofs.Tryz.isAgg39
def I6 := @Go.Proofs.Tryz.sizeOf40
def L8 := @Go.Proofs.Tryz.isAgg40
def Q8 := @Go.Proofs.Tryz.sizeOf41
def T6 := @Go.Proofs.Tryz.isAgg41
def J1 := @Go.Proofs.Tryz.underlying41
def K6 := @Go.Proofs.Tryz.sizeOf144
def W8 := @Go.Proofs.Tryz.isAgg144
def K0 := @Go.Proofs.Tryz.underlying144
def N4 := @Go.Proofs.Tryz.underlying97
def K8 := @Go.Proofs.Tryz.underlying52
def M5 := @Go.Proofs.Tryz.sizeOf52
def T2 := @Go.Proofs.Tryz.isAgg52
def U6 := @Go.Proofs.Tryz.underlying59
set_option linter.unusedVariables false
set_option linter.unusedSimpArgs false
namespace Go.AV
open Go.RowKit (Below)
section
variable {P : Program} {G : Nat → Prop} {n : Nat} {own : List Own} {o : Oper} {E : EnvF}
theorem N2 {ops : Array Oper} {t e : TypeId} {p q : Operand} {sz by' : Nat} {inf : TypeInfo} {z : Value} {v : Value} {es fs : List (List AV)} (i : Nat) (ho : o.op = .call { callee := .builtin .append, args := #[p, q], argTypes := #[t, t] }) (ht : P.underlying t = some (.slice e)) (hinf : P.info? e = some inf) (hz : inf.zero = some z) (hsz : inf.size = sz) (hby : inf.bytes = by') (hzs : z.cells.size = sz) (hpos : Nat.ble 1 sz = true) (hpos2 : Nat.ble 1 by' = true) (hp : Ev E p (AV.is v)) (hq : Ev E q (AV.list sz fs)) (hi : own[i]? = some (.arr v e sz es))
    (hlen : (es.length + fs.length) * by' ≤ 140737488355328) : OpE P G n own ops o E (fun _ : Value => True) (fun v' => own.set i (.arr v' e sz (es ++ fs))) (fun v' => AV.is v') :=
  fun w0 R0 R a w h1 h3 h2 => by
    have e1 : a.eval p = v := y5 (ops := ops) hp (by simp [ho, Op.operands, Call.operands]) h2
    obtain ⟨oa, c, e2, hc1, hc2, hu, hcell⟩ := y5 (ops := ops) hq (by simp [ho, Op.operands, Call.operands]) h2
    obtain ⟨hR, hue, xs, hown, hdc⟩ := h1.owned _ (G6 hi)
    have hb1 := Nat.le_of_ble_eq_true hpos
    have hb2 := Nat.le_of_ble_eq_true hpos2
    have hsum : es.length + fs.length ≤ 140737488355328 := Nat.le_trans (Nat.le_mul_of_pos_right _ hb2) hlen
    have hufs : ∀ x ∈ es ++ fs, x.length = sz := fun x hx => by
      rcases List.mem_append.1 hx with h | h
      · exact hue x h
      · exact hu x h
    by_cases hfs : fs = []
    · subst hfs
      have hrun : ∃ v', (Builtin.append_ #[t, t] o.type #[v, a.eval q]).run P w = .ok v' w ∧ v' = v := by
        refine ⟨v, ?_, rfl⟩
        rw [e2]
        rcases hown.2 with ⟨rfl, hz0⟩ | ⟨g, cap, cur, rfl, _, _, hnc, _⟩
        · cases oa with
          | none => simp [Builtin.append_, run_underlying ht, sizeOf, typeInfo, hinf, Builtin.lenOf, Builtin.firstCells, hz0]
          | some ad => simp [Builtin.append_, run_underlying ht, sizeOf, typeInfo, hinf, Builtin.lenOf, Builtin.firstCells, loadCells, loadCellsFrom, hz0]
        · cases oa with
          | none => simp [Builtin.append_, run_underlying ht, sizeOf, typeInfo, hinf, Builtin.lenOf, Builtin.firstCells, hnc, storeCells]
          | some ad => simp [Builtin.append_, run_underlying ht, sizeOf, typeInfo, hinf, Builtin.lenOf, Builtin.firstCells, loadCells, loadCellsFrom, hnc, storeCells]
      obtain ⟨v', hr, rfl⟩ := hrun
      have hex : (execOp a.eval o).run P w = .ok (.value v') w := by
        simp only [execOp, ho, resolve, invoke, builtin, Sem.run_bind, Sem.run_pure, Result.andThen_ok, List.map_toArray, List.map_cons, List.map_nil, e1, hr]
      unfold Oper.wp
      rw [hex, Oper.upon_value]
      have hset : own.set i (.arr v' e sz (es ++ [])) = own := by
        rw [List.append_nil]
        obtain ⟨hlt, he⟩ := List.getElem?_eq_some_iff.1 hi
        rw [← he]; exact List.set_getElem_self hlt
      exact ⟨v', v', R, trivial, rfl, by show Core G w0 R0 (own.set i (.arr v' e sz (es ++ []))) R w; rw [hset]; exact h1, RSub.refl _, rfl⟩
    · obtain ⟨ad, rfl, hca⟩ := hcell hfs
      obtain ⟨ns, hn1, hn2, hn3⟩ := AU7 (sz := sz) h1.rle hca
      have hnl : ns.length = fs.length * sz := by rw [hn1, X6 hu]
      have hone : ∀ u ∈ ns, u.oneCell' = true := fun u hm => by
        obtain ⟨j, hj⟩ := List.getElem?_of_mem hm
        have hjl : j < fs.flatten.length := by rw [← hn1]; exact (List.getElem?_eq_some_iff.1 hj).1
        exact (hn3.2 j u _ hj (List.getElem?_eq_getElem hjl)).2
      obtain ⟨v', w', hr, hown', hgr, _, hblk⟩ := run_append_own_at (P := P) w 0 t o.type e inf z sz by' ht hinf hz hsz hby hzs hb1 v es.length xs hown ad fs.length c ns hnl hn2 hone (by unfold maxLen; omega) hlen (Nat.zero_le _)
      have hex : (execOp a.eval o).run P w = .ok (.value v') w' := by
        simp only [execOp, ho, resolve, invoke, builtin, Sem.run_bind, Sem.run_pure, Result.andThen_ok, List.map_toArray, List.map_cons, List.map_nil, e1, e2, hr]
      unfold Oper.wp
      rw [hex, Oper.upon_value]
      refine ⟨v', v', R, trivial, rfl, AA3 h1 hi (fun b hb => ?_) ⟨fun b hb => ?_, hufs, xs ++ ns, ?_, ?_⟩ hgr, RSub.refl _, rfl⟩
      · simp only [Own.blk] at hb ⊢
        rcases hblk with h | h
        · exact .inl (by rw [← h]; exact hb)
        · rw [hb] at h; injection h with h; exact .inr h
      · rcases hblk with h | h
        · exact hR b (by rw [← h]; exact hb)
        · rw [hb] at h; injection h with h; subst h; exact x7 h1.rle
      · rw [J4]; exact hown'
      · rw [List.flatten_append]; exact k6 hdc hn3

theorem X2 {ops : Array Oper} {t e : TypeId} {sz : Nat} (ho : o.op = .buildSlice t 0 #[]) (ht : P.underlying t = some (.slice e)) (hs : ∀ w, (sizeOf e).run P w = .ok sz w)
    : OpE P G n own ops o E (fun _ : Value => True) (fun v' => own ++ [.arr v' e sz []]) (fun v' => AV.is v') :=
  fun w0 R0 R a w h1 h3 h2 => by
    have hex : (execOp a.eval o).run P w = .ok (.value (.slice (some ⟨w.heap.size, 0, none⟩) 0 0)) (w.alloc (.cells #[] e)) := by
      simp [execOp, ho, Instr.buildSlice, run_underlying ht, hs, newRow, Instr.fill, go_sem]
    unfold Oper.wp
    rw [hex, Oper.upon_value]
    exact ⟨_, _, R, trivial, rfl, W0 (x8 h1 rfl (Nat.le_refl _) (Nat.zero_le _) (by simp) (fun x hx => by simp at hx) ⟨by simp, fun i v x h => by simp at h⟩) (List.perm_append_comm (l₁ := [_])), RSub.refl _, rfl⟩

theorem AF9 {ops : Array Oper} {t e : TypeId} {len sz : Nat} {z : Value} {ps : Array (Nat × Operand)} {asl : List (Nat × List AV)} {cs : List AV} {es : List (List AV)} (ho : o.op = .buildSlice t len ps) (ht : P.underlying t = some (.slice e)) (hsz : ∀ w, (sizeOf e).run P w = .ok sz w) (hz : ∀ w, (zeroValue e).run P w = .ok z w)
    (hl : Nat.ble (len * sz) 1000 = true) (hl2 : Nat.ble len 1000 = true) (hzs : z.cells.size = sz) (h1' : z.cells.toList.all Value.oneCell' = true) (hp : EvP E ps.toList asl) (hc : afill (fun i => some (i * sz, sz)) ((List.range (len * sz)).map fun i => zeroA (z.cells[i % z.cells.size]!)) asl = some cs) (hes : chunks sz len cs = es)
    : OpE P G n own ops o E (fun _ : Value => True) (fun v' => own ++ [.arr v' e sz es]) (fun v' => AV.is v') :=
  fun w0 R0 R a w h1 h3 h2 => by
    obtain ⟨k1, k2⟩ := AN8 (o := o) (fun t ht => h2 t (d5 ht)) hp fun p hpm => by simp [ho, Op.operands]; exact ⟨p.1, by simpa using hpm⟩
    have hone : ∀ i, i < len * sz → (z.cells[i % z.cells.size]!).oneCell' = true := fun i hi => by
      have hpos : 0 < z.cells.size := by
        rw [hzs]
        rcases Nat.eq_zero_or_pos sz with h0 | h0
        · subst h0; simp at hi
        · exact h0
      rw [getElem!_pos z.cells _ (Nat.mod_lt _ hpos)]
      exact List.all_eq_true.1 h1' _ (by simp)
    obtain ⟨cells', f2, f3⟩ := AF1 (R := R) (place := fun i => some (i * sz, sz)) _ asl ((Array.range (len * sz)).map fun i => z.cells[i % z.cells.size]!) _ cs ⟨by simp, fun i v y hv hy => by
      rw [Array.toList_map, List.getElem?_map, Array.toList_range] at hv
      rw [List.getElem?_map] at hy
      by_cases hi : i < len * sz
      · rw [List.getElem?_range hi] at hv hy
        simp only [Option.map_some, Option.some.injEq] at hv hy
        rw [← hv, ← hy]
        exact ⟨i7 R _, hone i hi⟩
      · rw [List.getElem?_eq_none (by simp; omega)] at hv; cases hv⟩ k1 k2 hc
    have hlen := Nat.le_of_ble_eq_true hl
    have h5 : cells'.toList.length = len * sz := by
      rw [f3.1, Ac1 asl _ cs hc]; simp
    have hch := AB7 sz len cs (by rw [← f3.1]; exact h5)
    have h6 : (ps.map fun (i, x) => (i, a.eval x)).toList = ps.toList.map fun p => (p.1, a.eval p.2) := by simp
    have hrun : (execOp a.eval o).run P w = .ok (.value (.slice (some ⟨w.heap.size, 0, none⟩) len len)) (w.alloc (.cells cells' e)) := by
      have hcap : ¬ (len * sz > 2 ^ 24) := by omega
      by_cases h0 : len * sz = 0
      · have h7 : (Array.range (len * sz)).map (fun x => (#[] : Array Value)[x % (#[] : Array Value).size]!) = (Array.range (len * sz)).map fun i => z.cells[i % z.cells.size]! := by rw [h0]; simp
        rw [← h7] at f2
        simp only [execOp, ho, Instr.buildSlice, run_underlying ht, hsz, hcap, if_false, Sem.run_bind, Sem.run_pure, Result.andThen_ok, Sem.run_ite, if_pos h0, h6, f2, newRow, run_newObj, World.alloc_eq]
      · simp only [execOp, ho, Instr.buildSlice, run_underlying ht, hsz, hcap, if_false, Sem.run_bind, Sem.run_pure, Result.andThen_ok, Sem.run_ite, if_neg h0, hz, h6, f2, newRow, run_newObj, World.alloc_eq]
    unfold Oper.wp
    rw [hrun, Oper.upon_value]
    have hlz : es.length = len := by rw [← hes, A7]
    refine ⟨_, _, R, trivial, rfl, W0 (x8 (sz := sz) (m := len) (cap := len) (es := es) h1 hlz (Nat.le_refl _) (by have := Nat.le_of_ble_eq_true hl2; unfold maxLen; omega) (by rw [← Array.length_toList]; exact h5) (by rw [← hes]; exact hch.2) ?_) (List.perm_append_comm (l₁ := [_])), RSub.refl _, rfl⟩
    rw [List.take_of_length_le (by rw [h5]; exact Nat.le_refl _), ← hes, hch.1]
    exact f3
end
end Go.AV

namespace Go.M
open Go.AV
abbrev Str := List UInt8
@[reducible] def strs (l : List Str) : AV := AV.list 1 (l.map fun s => [AV.str s])
@[reducible] def ints (l : List Int) : AV := AV.list 1 (l.map fun s => [AV.int s])
def sizeL {α : Type} (f : α → Nat) (l : List α) : Nat := l.length + (l.map f).sum
def szR (n : Nat) (left : Int) : Int := if left < n then -1 else left - n
theorem sum_le {α : Type} (f : α → Nat) : ∀ (l : List α) (i : Nat) (x : α), l[i]? = some x → ((l.take i).map f).sum + f x ≤ (l.map f).sum
  | [], i, x, h => by simp at h
  | y :: l, 0, x, h => by simp at h; subst h; simp
  | y :: l, i + 1, x, h => by
    have := sum_le f l i x (by simpa using h)
    simp only [z8, List.map_cons, List.sum_cons]; omega
theorem j5 {α : Type} {f : α → Nat} {l : List α} {x : α} (h : x ∈ l) : f x ≤ sizeL f l := by
  obtain ⟨i, hi⟩ := List.getElem?_of_mem h
  have := sum_le f l i x hi
  unfold sizeL; omega
theorem M9 {α : Type} {f : α → Nat} {l : List α} : l.length ≤ sizeL f l := by unfold sizeL; omega
theorem V2 {α : Type} {f : α → Nat} {l : List α} {i : Nat} {x : α} (h : l[i]? = some x) : f x ≤ sizeL f l := j5 (G6 h)
theorem w5 {α : Type} [Inhabited α] (l : List α) (i : Nat) : ∃ y, i < l.length → l[i]? = some y := ⟨l[i]?.getD default, fun h => by rw [List.getElem?_eq_getElem h]; rfl⟩
def bs {α : Type} (f : α → Int) (l : List α) (i j : Nat) : Nat :=
  if i < j then
    match l[(i + j) / 2]? with
    | some x => if f x < 0 then bs f l ((i + j) / 2 + 1) j else bs f l i ((i + j) / 2)
    | none => i
  else i
termination_by j - i
def bsAt {α : Type} (f : α → Int) (l : List α) (n : Nat) : Bool :=
  match l[n]? with
  | some x => f x == 0
  | none => false
theorem Ai5 {α : Type} {f : α → Int} {l : List α} {i j : Nat} {x : α} (h : i < j) (hx : l[(i + j) / 2]? = some x) (hf : f x < 0) : bs f l i j = bs f l ((i + j) / 2 + 1) j := by
  rw [bs, if_pos h, hx]; simp only [hf, if_true]
theorem Ai6 {α : Type} {f : α → Int} {l : List α} {i j : Nat} {x : α} (h : i < j) (hx : l[(i + j) / 2]? = some x) (hf : ¬ f x < 0) : bs f l i j = bs f l i ((i + j) / 2) := by
  rw [bs, if_pos h, hx]; simp only [hf, if_false]
theorem AV2 {α : Type} {f : α → Int} {l : List α} {i j : Nat} (h : ¬ i < j) : bs f l i j = i := by rw [bs, if_neg h]
theorem AZ0 {i j : Nat} (h : i + j ≤ 9223372036854775807) : IntKind.i64.wrap (IntKind.u64.wrap ((i : Int) + (j : Int)) / 2 ^ ((1 : Int).toNat)) = ((i + j) / 2 : Nat) := by
  have h1 : IntKind.u64.wrap ((i : Int) + (j : Int)) = (i : Int) + (j : Int) := by simp only [IntKind.wrap, IntKind.bits, IntKind.signed]; simp; omega
  rw [h1]
  have h2 : ((i : Int) + (j : Int)) / 2 ^ ((1 : Int).toNat) = (((i + j) / 2 : Nat) : Int) := by
    show ((i : Int) + (j : Int)) / 2 = _
    omega
  rw [h2]
  exact in64 (by omega)
def idxFrom {α : Type} (p : α → Bool) : List α → Int → Int
  | [], _ => -1
  | x :: xs, k => if p x then k else idxFrom p xs (k + 1)
theorem Z9 {α : Type} (p : α → Bool) : ∀ (l : List α) (k : Int), 0 ≤ k → decide (0 ≤ idxFrom p l k) = l.any p
  | [], _, _ => rfl
  | x :: xs, k, h => by
    unfold idxFrom
    cases hp : p x with
    | true => simp [hp]; exact h
    | false => simp [hp, Z9 p xs (k + 1) (by omega)]
structure TClock where
  Off : Int
deriving DecidableEq, Inhabited
def TClock.cs (c : TClock) : List AV := [AV.int c.Off]
theorem TClock.flat (c : TClock) : ∀ x ∈ c.cs, Flat x := (B6 (D3 _ _) C9)
def TClock.size (c : TClock) : Nat := 0
structure TLease where
  Who : Int
  From : Int
  Until : Int
deriving DecidableEq, Inhabited
def TLease.cs (c : TLease) : List AV := [AV.int c.Who, AV.int c.From, AV.int c.Until]
theorem TLease.flat (c : TLease) : ∀ x ∈ c.cs, Flat x := (B6 (D3 _ _) (B6 (D3 _ _) (B6 (D3 _ _) C9)))
def TLease.size (c : TLease) : Nat := 0
structure TWatch where
  True : Int
  Clocks : List TClock
  Given : List TLease
deriving DecidableEq, Inhabited
def TWatch.cs (c : TWatch) : List AV := [AV.int c.True, AV.list 1 (c.Clocks.map TClock.cs), AV.list 3 (c.Given.map TLease.cs)]
def TWatch.size (c : TWatch) : Nat := c.Clocks.length + c.Given.length
structure TWatchAct where
  Kind : Int
  Who : Int
  By : Int
deriving DecidableEq, Inhabited
def TWatchAct.cs (c : TWatchAct) : List AV := [AV.int c.Kind, AV.int c.Who, AV.int c.By]
theorem TWatchAct.flat (c : TWatchAct) : ∀ x ∈ c.cs, Flat x := (B6 (D3 _ _) (B6 (D3 _ _) (B6 (D3 _ _) C9)))
def TWatchAct.size (c : TWatchAct) : Nat := 0
structure TWrite where
  Key : Str
  Val : Str
  Gone : Bool
deriving DecidableEq, Inhabited
def TWrite.cs (c : TWrite) : List AV := [AV.str c.Key, AV.str c.Val, AV.bool c.Gone]
theorem TWrite.flat (c : TWrite) : ∀ x ∈ c.cs, Flat x := (B6 (D5 _) (B6 (D5 _) (B6 (C7 _) C9)))
def TWrite.size (c : TWrite) : Nat := c.Key.length + c.Val.length
def TWrite.ok (c : TWrite) : Prop := c.Key.length ≤ 9223372036854775807 ∧ c.Val.length ≤ 9223372036854775807
structure TRec where
  Kind : Int
  Txn : Int
  Time : Int
  Lead : Int
  Reads : List Str
  Writes : List TWrite
  Yes : Bool
deriving DecidableEq, Inhabited
def TRec.cs (c : TRec) : List AV := [AV.int c.Kind, AV.int c.Txn, AV.int c.Time, AV.int c.Lead, strs c.Reads, AV.list 3 (c.Writes.map TWrite.cs), AV.bool c.Yes]
def TRec.size (c : TRec) : Nat := sizeL (fun x => x.length) c.Reads + sizeL TWrite.size c.Writes
def TRec.ok (c : TRec) : Prop := (∀ x ∈ c.Reads, x.length ≤ 9223372036854775807) ∧ (∀ x ∈ c.Writes, x.ok)
structure TEntry where
  Term : Int
  Rec : TRec
deriving DecidableEq, Inhabited
def TEntry.cs (c : TEntry) : List AV := [AV.int c.Term, AV.int c.Rec.Kind, AV.int c.Rec.Txn, AV.int c.Rec.Time, AV.int c.Rec.Lead, strs c.Rec.Reads, AV.list 3 (c.Rec.Writes.map TWrite.cs), AV.bool c.Rec.Yes]
def TEntry.size (c : TEntry) : Nat := c.Rec.size
def TEntry.ok (c : TEntry) : Prop := c.Rec.ok
structure TDisk where
  Kept : Str
  Loose : Str
deriving DecidableEq, Inhabited
def TDisk.cs (c : TDisk) : List AV := [AV.str c.Kept, AV.str c.Loose]
theorem TDisk.flat (c : TDisk) : ∀ x ∈ c.cs, Flat x := (B6 (D5 _) (B6 (D5 _) C9))
def TDisk.size (c : TDisk) : Nat := c.Kept.length + c.Loose.length
def TDisk.ok (c : TDisk) : Prop := c.Kept.length ≤ 9223372036854775807 ∧ c.Loose.length ≤ 9223372036854775807
structure TReplica where
  Up : Bool
  Log : List TEntry
  Sure : Int
deriving DecidableEq, Inhabited
def TReplica.cs (c : TReplica) : List AV := [AV.bool c.Up, AV.list 8 (c.Log.map TEntry.cs), AV.int c.Sure]
def TReplica.size (c : TReplica) : Nat := sizeL TEntry.size c.Log
def TReplica.ok (c : TReplica) : Prop := (∀ x ∈ c.Log, x.ok)
structure TGroup where
  Reps : List TReplica
  Term : Int
  Lead : Int
deriving DecidableEq, Inhabited
def TGroup.cs (c : TGroup) : List AV := [AV.list 3 (c.Reps.map TReplica.cs), AV.int c.Term, AV.int c.Lead]
def TGroup.size (c : TGroup) : Nat := sizeL TReplica.size c.Reps
def TGroup.ok (c : TGroup) : Prop := (∀ x ∈ c.Reps, x.ok)
structure THouse where
  Group : TGroup
  Disks : List TDisk
deriving DecidableEq, Inhabited
def THouse.cs (c : THouse) : List AV := [AV.list 3 (c.Group.Reps.map TReplica.cs), AV.int c.Group.Term, AV.int c.Group.Lead, AV.list 2 (c.Disks.map TDisk.cs)]
def THouse.size (c : THouse) : Nat := c.Group.size + sizeL TDisk.size c.Disks
def THouse.ok (c : THouse) : Prop := c.Group.ok ∧ (∀ x ∈ c.Disks, x.ok)
structure TGroupAct where
  Kind : Int
  Rep : Int
  Rec : TRec
deriving DecidableEq, Inhabited
def TGroupAct.cs (c : TGroupAct) : List AV := [AV.int c.Kind, AV.int c.Rep, AV.int c.Rec.Kind, AV.int c.Rec.Txn, AV.int c.Rec.Time, AV.int c.Rec.Lead, strs c.Rec.Reads, AV.list 3 (c.Rec.Writes.map TWrite.cs), AV.bool c.Rec.Yes]
def TGroupAct.size (c : TGroupAct) : Nat := c.Rec.size
def TGroupAct.ok (c : TGroupAct) : Prop := c.Rec.ok
structure THouseAct where
  Kind : Int
  Rep : Int
  Rec : TRec
  Keep : Int
  Torn : Bool
deriving DecidableEq, Inhabited
def THouseAct.cs (c : THouseAct) : List AV := [AV.int c.Kind, AV.int c.Rep, AV.int c.Rec.Kind, AV.int c.Rec.Txn, AV.int c.Rec.Time, AV.int c.Rec.Lead, strs c.Rec.Reads, AV.list 3 (c.Rec.Writes.map TWrite.cs), AV.bool c.Rec.Yes, AV.int c.Keep, AV.bool c.Torn]
def THouseAct.size (c : THouseAct) : Nat := c.Rec.size
def THouseAct.ok (c : THouseAct) : Prop := c.Rec.ok
structure TLock where
  Key : Str
  Txn : Int
  Write : Bool
deriving DecidableEq, Inhabited
def TLock.cs (c : TLock) : List AV := [AV.str c.Key, AV.int c.Txn, AV.bool c.Write]
theorem TLock.flat (c : TLock) : ∀ x ∈ c.cs, Flat x := (B6 (D5 _) (B6 (D3 _ _) (B6 (C7 _) C9)))
def TLock.size (c : TLock) : Nat := c.Key.length
def TLock.ok (c : TLock) : Prop := c.Key.length ≤ 9223372036854775807
structure TVer where
  Time : Int
  Val : Str
  Gone : Bool
deriving DecidableEq, Inhabited
def TVer.cs (c : TVer) : List AV := [AV.int c.Time, AV.str c.Val, AV.bool c.Gone]
theorem TVer.flat (c : TVer) : ∀ x ∈ c.cs, Flat x := (B6 (D3 _ _) (B6 (D5 _) (B6 (C7 _) C9)))
def TVer.size (c : TVer) : Nat := c.Val.length
def TVer.ok (c : TVer) : Prop := c.Val.length ≤ 9223372036854775807
structure TCell where
  Key : Str
  Vers : List TVer
deriving DecidableEq, Inhabited
def TCell.cs (c : TCell) : List AV := [AV.str c.Key, AV.list 3 (c.Vers.map TVer.cs)]
def TCell.size (c : TCell) : Nat := c.Key.length + sizeL TVer.size c.Vers
def TCell.ok (c : TCell) : Prop := c.Key.length ≤ 9223372036854775807 ∧ (∀ x ∈ c.Vers, x.ok)
structure THeld where
  Txn : Int
  Time : Int
  Lead : Int
  Reads : List Str
  Writes : List TWrite
deriving DecidableEq, Inhabited
def THeld.cs (c : THeld) : List AV := [AV.int c.Txn, AV.int c.Time, AV.int c.Lead, strs c.Reads, AV.list 3 (c.Writes.map TWrite.cs)]
def THeld.size (c : THeld) : Nat := sizeL (fun x => x.length) c.Reads + sizeL TWrite.size c.Writes
def THeld.ok (c : THeld) : Prop := (∀ x ∈ c.Reads, x.length ≤ 9223372036854775807) ∧ (∀ x ∈ c.Writes, x.ok)
structure TTold where
  Txn : Int
  Yes : Bool
  Time : Int
deriving DecidableEq, Inhabited
def TTold.cs (c : TTold) : List AV := [AV.int c.Txn, AV.bool c.Yes, AV.int c.Time]
theorem TTold.flat (c : TTold) : ∀ x ∈ c.cs, Flat x := (B6 (D3 _ _) (B6 (C7 _) (B6 (D3 _ _) C9)))
def TTold.size (c : TTold) : Nat := 0
structure TState where
  Floor : Int
  Cells : List TCell
  Held : List THeld
  Told : List TTold
deriving DecidableEq, Inhabited
def TState.cs (c : TState) : List AV := [AV.int c.Floor, AV.list 2 (c.Cells.map TCell.cs), AV.list 5 (c.Held.map THeld.cs), AV.list 3 (c.Told.map TTold.cs)]
def TState.size (c : TState) : Nat := sizeL TCell.size c.Cells + sizeL THeld.size c.Held + c.Told.length
def TState.ok (c : TState) : Prop := (∀ x ∈ c.Cells, x.ok) ∧ (∀ x ∈ c.Held, x.ok)
structure TSpan where
  Low : Int
  High : Int
deriving DecidableEq, Inhabited
def TSpan.cs (c : TSpan) : List AV := [AV.int c.Low, AV.int c.High]
theorem TSpan.flat (c : TSpan) : ∀ x ∈ c.cs, Flat x := (B6 (D3 _ _) (B6 (D3 _ _) C9))
def TSpan.size (c : TSpan) : Nat := 0
structure TOrder where
  Txn : Int
  Reads : List Str
  Writes : List TWrite
deriving DecidableEq, Inhabited
def TOrder.cs (c : TOrder) : List AV := [AV.int c.Txn, strs c.Reads, AV.list 3 (c.Writes.map TWrite.cs)]
def TOrder.size (c : TOrder) : Nat := sizeL (fun x => x.length) c.Reads + sizeL TWrite.size c.Writes
def TOrder.ok (c : TOrder) : Prop := (∀ x ∈ c.Reads, x.length ≤ 9223372036854775807) ∧ (∀ x ∈ c.Writes, x.ok)
structure TDeal where
  Cuts : List Str
  States : List TState
  Orders : List TOrder
deriving DecidableEq, Inhabited
def TDeal.cs (c : TDeal) : List AV := [strs c.Cuts, AV.list 4 (c.States.map TState.cs), AV.list 3 (c.Orders.map TOrder.cs)]
def TDeal.size (c : TDeal) : Nat := sizeL (fun x => x.length) c.Cuts + sizeL TState.size c.States + sizeL TOrder.size c.Orders
def TDeal.ok (c : TDeal) : Prop := (∀ x ∈ c.Cuts, x.length ≤ 9223372036854775807) ∧ (∀ x ∈ c.States, x.ok) ∧ (∀ x ∈ c.Orders, x.ok)
structure TDealAct where
  Kind : Int
  Txn : Int
  Part : Int
  Time : Int
deriving DecidableEq, Inhabited
def TDealAct.cs (c : TDealAct) : List AV := [AV.int c.Kind, AV.int c.Txn, AV.int c.Part, AV.int c.Time]
theorem TDealAct.flat (c : TDealAct) : ∀ x ∈ c.cs, Flat x := (B6 (D3 _ _) (B6 (D3 _ _) (B6 (D3 _ _) (B6 (D3 _ _) C9))))
def TDealAct.size (c : TDealAct) : Nat := 0
structure TOp where
  Kind : Int
  Key : Str
  Val : Str
  By : Int
deriving DecidableEq, Inhabited
def TOp.cs (c : TOp) : List AV := [AV.int c.Kind, AV.str c.Key, AV.str c.Val, AV.int c.By]
theorem TOp.flat (c : TOp) : ∀ x ∈ c.cs, Flat x := (B6 (D3 _ _) (B6 (D5 _) (B6 (D5 _) (B6 (D3 _ _) C9))))
def TOp.size (c : TOp) : Nat := c.Key.length + c.Val.length
def TOp.ok (c : TOp) : Prop := c.Key.length ≤ 9223372036854775807 ∧ c.Val.length ≤ 9223372036854775807
structure TGot where
  Key : Str
  Val : Str
  There : Bool
deriving DecidableEq, Inhabited
def TGot.cs (c : TGot) : List AV := [AV.str c.Key, AV.str c.Val, AV.bool c.There]
theorem TGot.flat (c : TGot) : ∀ x ∈ c.cs, Flat x := (B6 (D5 _) (B6 (D5 _) (B6 (C7 _) C9)))
def TGot.size (c : TGot) : Nat := c.Key.length + c.Val.length
def TGot.ok (c : TGot) : Prop := c.Key.length ≤ 9223372036854775807 ∧ c.Val.length ≤ 9223372036854775807
structure TWorldTxn where
  Ops : List TOp
  Got : List TGot
  Terms : List Int
  Begin : Int
  End : Int
  Yes : Bool
  Time : Int
  Dead : Bool
  Put : Bool
  Stopped : Bool
deriving DecidableEq, Inhabited
def TWorldTxn.cs (c : TWorldTxn) : List AV := [AV.list 4 (c.Ops.map TOp.cs), AV.list 3 (c.Got.map TGot.cs), ints c.Terms, AV.int c.Begin, AV.int c.End, AV.bool c.Yes, AV.int c.Time, AV.bool c.Dead, AV.bool c.Put, AV.bool c.Stopped]
def TWorldTxn.size (c : TWorldTxn) : Nat := sizeL TOp.size c.Ops + sizeL TGot.size c.Got + c.Terms.length
def TWorldTxn.ok (c : TWorldTxn) : Prop := (∀ x ∈ c.Ops, x.ok) ∧ (∀ x ∈ c.Got, x.ok)
structure TWorldLook where
  Node : Int
  Keys : List Str
  Got : List TGot
  Time : Int
  Begin : Int
  End : Int
deriving DecidableEq, Inhabited
def TWorldLook.cs (c : TWorldLook) : List AV := [AV.int c.Node, strs c.Keys, AV.list 3 (c.Got.map TGot.cs), AV.int c.Time, AV.int c.Begin, AV.int c.End]
def TWorldLook.size (c : TWorldLook) : Nat := sizeL (fun x => x.length) c.Keys + sizeL TGot.size c.Got
def TWorldLook.ok (c : TWorldLook) : Prop := (∀ x ∈ c.Keys, x.length ≤ 9223372036854775807) ∧ (∀ x ∈ c.Got, x.ok)
structure TWorld where
  Now : Int
  Count : Int
  Clocks : List TClock
  Cuts : List Str
  Groups : List TGroup
  Locks : List (List TLock)
  Promised : List Int
  Txns : List TWorldTxn
  Looks : List TWorldLook
deriving DecidableEq, Inhabited
def TWorld.cs (c : TWorld) : List AV := [AV.int c.Now, AV.int c.Count, AV.list 1 (c.Clocks.map TClock.cs), strs c.Cuts, AV.list 3 (c.Groups.map TGroup.cs), AV.list 1 (c.Locks.map fun x => [AV.list 3 (x.map TLock.cs)]), ints c.Promised, AV.list 10 (c.Txns.map TWorldTxn.cs), AV.list 6 (c.Looks.map TWorldLook.cs)]
def TWorld.size (c : TWorld) : Nat := c.Clocks.length + sizeL (fun x => x.length) c.Cuts + sizeL TGroup.size c.Groups + sizeL (fun x => sizeL TLock.size x) c.Locks + c.Promised.length + sizeL TWorldTxn.size c.Txns + sizeL TWorldLook.size c.Looks
def TWorld.ok (c : TWorld) : Prop := (∀ x ∈ c.Cuts, x.length ≤ 9223372036854775807) ∧ (∀ x ∈ c.Groups, x.ok) ∧ (∀ x ∈ c.Locks, (∀ y ∈ x, y.ok)) ∧ (∀ x ∈ c.Txns, x.ok) ∧ (∀ x ∈ c.Looks, x.ok)
structure TWorldAct where
  Kind : Int
  At : Int
  By : Int
deriving DecidableEq, Inhabited
def TWorldAct.cs (c : TWorldAct) : List AV := [AV.int c.Kind, AV.int c.At, AV.int c.By]
theorem TWorldAct.flat (c : TWorldAct) : ∀ x ∈ c.cs, Flat x := (B6 (D3 _ _) (B6 (D3 _ _) (B6 (D3 _ _) C9)))
def TWorldAct.size (c : TWorldAct) : Nat := 0
structure TDeed where
  Txn : Int
  Begin : Int
  End : Int
  Yes : Bool
  Look : Bool
  Time : Int
  Got : List TGot
  Writes : List TWrite
deriving DecidableEq, Inhabited
def TDeed.cs (c : TDeed) : List AV := [AV.int c.Txn, AV.int c.Begin, AV.int c.End, AV.bool c.Yes, AV.bool c.Look, AV.int c.Time, AV.list 3 (c.Got.map TGot.cs), AV.list 3 (c.Writes.map TWrite.cs)]
def TDeed.size (c : TDeed) : Nat := sizeL TGot.size c.Got + sizeL TWrite.size c.Writes
def TDeed.ok (c : TDeed) : Prop := (∀ x ∈ c.Got, x.ok) ∧ (∀ x ∈ c.Writes, x.ok)
structure TPlaces where
  Ver : Int
  Cuts : List Str
  Groups : List Int
deriving DecidableEq, Inhabited
def TPlaces.cs (c : TPlaces) : List AV := [AV.int c.Ver, strs c.Cuts, ints c.Groups]
def TPlaces.size (c : TPlaces) : Nat := sizeL (fun x => x.length) c.Cuts + c.Groups.length
def TPlaces.ok (c : TPlaces) : Prop := (∀ x ∈ c.Cuts, x.length ≤ 9223372036854775807)
structure TAtlas where
  Maps : List TPlaces
  Knows : List Int
deriving DecidableEq, Inhabited
def TAtlas.cs (c : TAtlas) : List AV := [AV.list 3 (c.Maps.map TPlaces.cs), ints c.Knows]
def TAtlas.size (c : TAtlas) : Nat := sizeL TPlaces.size c.Maps + c.Knows.length
def TAtlas.ok (c : TAtlas) : Prop := (∀ x ∈ c.Maps, x.ok)
structure TMove where
  Low : Str
  High : Str
  Phase : Int
  From : List TWrite
  To : List TWrite
  Last : Str
  Over : Bool
deriving DecidableEq, Inhabited
def TMove.cs (c : TMove) : List AV := [AV.str c.Low, AV.str c.High, AV.int c.Phase, AV.list 3 (c.From.map TWrite.cs), AV.list 3 (c.To.map TWrite.cs), AV.str c.Last, AV.bool c.Over]
def TMove.size (c : TMove) : Nat := c.Low.length + c.High.length + sizeL TWrite.size c.From + sizeL TWrite.size c.To + c.Last.length
def TMove.ok (c : TMove) : Prop := c.Low.length ≤ 9223372036854775807 ∧ c.High.length ≤ 9223372036854775807 ∧ (∀ x ∈ c.From, x.ok) ∧ (∀ x ∈ c.To, x.ok) ∧ c.Last.length ≤ 9223372036854775807
structure TMoveAct where
  Kind : Int
  Write : TWrite
  Many : Int
deriving DecidableEq, Inhabited
def TMoveAct.cs (c : TMoveAct) : List AV := [AV.int c.Kind, AV.str c.Write.Key, AV.str c.Write.Val, AV.bool c.Write.Gone, AV.int c.Many]
theorem TMoveAct.flat (c : TMoveAct) : ∀ x ∈ c.cs, Flat x := (B6 (D3 _ _) (B6 (D5 _) (B6 (D5 _) (B6 (C7 _) (B6 (D3 _ _) C9)))))
def TMoveAct.size (c : TMoveAct) : Nat := c.Write.size
def TMoveAct.ok (c : TMoveAct) : Prop := c.Write.ok
structure TFeedItem where
  Time : Int
  Group : Int
  Key : Str
  Val : Str
  Gone : Bool
deriving DecidableEq, Inhabited
def TFeedItem.cs (c : TFeedItem) : List AV := [AV.int c.Time, AV.int c.Group, AV.str c.Key, AV.str c.Val, AV.bool c.Gone]
theorem TFeedItem.flat (c : TFeedItem) : ∀ x ∈ c.cs, Flat x := (B6 (D3 _ _) (B6 (D3 _ _) (B6 (D5 _) (B6 (D5 _) (B6 (C7 _) C9)))))
def TFeedItem.size (c : TFeedItem) : Nat := c.Key.length + c.Val.length
def TFeedItem.ok (c : TFeedItem) : Prop := c.Key.length ≤ 9223372036854775807 ∧ c.Val.length ≤ 9223372036854775807
structure TFeeder where
  Done : Int
deriving DecidableEq, Inhabited
def TFeeder.cs (c : TFeeder) : List AV := [AV.int c.Done]
theorem TFeeder.flat (c : TFeeder) : ∀ x ∈ c.cs, Flat x := (B6 (D3 _ _) C9)
def TFeeder.size (c : TFeeder) : Nat := 0
structure TIdx where
  Name : Str
  Col : Int
  Stage : Int
deriving DecidableEq, Inhabited
def TIdx.cs (c : TIdx) : List AV := [AV.str c.Name, AV.int c.Col, AV.int c.Stage]
theorem TIdx.flat (c : TIdx) : ∀ x ∈ c.cs, Flat x := (B6 (D5 _) (B6 (D3 _ _) (B6 (D3 _ _) C9)))
def TIdx.size (c : TIdx) : Nat := c.Name.length
def TIdx.ok (c : TIdx) : Prop := c.Name.length ≤ 9223372036854775807
structure TTable where
  Name : Str
  Cols : List Str
  Idxs : List TIdx
deriving DecidableEq, Inhabited
def TTable.cs (c : TTable) : List AV := [AV.str c.Name, strs c.Cols, AV.list 3 (c.Idxs.map TIdx.cs)]
def TTable.size (c : TTable) : Nat := c.Name.length + sizeL (fun x => x.length) c.Cols + sizeL TIdx.size c.Idxs
def TTable.ok (c : TTable) : Prop := c.Name.length ≤ 9223372036854775807 ∧ (∀ x ∈ c.Cols, x.length ≤ 9223372036854775807) ∧ (∀ x ∈ c.Idxs, x.ok)
structure TRow where
  Vals : List Str
deriving DecidableEq, Inhabited
def TRow.cs (c : TRow) : List AV := [strs c.Vals]
def TRow.size (c : TRow) : Nat := sizeL (fun x => x.length) c.Vals
def TRow.ok (c : TRow) : Prop := (∀ x ∈ c.Vals, x.length ≤ 9223372036854775807)
structure TRowAct where
  Kind : Int
  Old : TRow
  New : TRow
deriving DecidableEq, Inhabited
def TRowAct.cs (c : TRowAct) : List AV := [AV.int c.Kind, strs c.Old.Vals, strs c.New.Vals]
def TRowAct.size (c : TRowAct) : Nat := c.Old.size + c.New.size
def TRowAct.ok (c : TRowAct) : Prop := c.Old.ok ∧ c.New.ok
structure TShift where
  Name : Str
  Ways : List TTable
  At : List Int
  Store : List TWrite
deriving DecidableEq, Inhabited
def TShift.cs (c : TShift) : List AV := [AV.str c.Name, AV.list 3 (c.Ways.map TTable.cs), ints c.At, AV.list 3 (c.Store.map TWrite.cs)]
def TShift.size (c : TShift) : Nat := c.Name.length + sizeL TTable.size c.Ways + c.At.length + sizeL TWrite.size c.Store
def TShift.ok (c : TShift) : Prop := c.Name.length ≤ 9223372036854775807 ∧ (∀ x ∈ c.Ways, x.ok) ∧ (∀ x ∈ c.Store, x.ok)
structure TShiftAct where
  Server : Int
  Step : Int
  Act : TRowAct
deriving DecidableEq, Inhabited
def TShiftAct.cs (c : TShiftAct) : List AV := [AV.int c.Server, AV.int c.Step, AV.int c.Act.Kind, strs c.Act.Old.Vals, strs c.Act.New.Vals]
def TShiftAct.size (c : TShiftAct) : Nat := c.Act.size
def TShiftAct.ok (c : TShiftAct) : Prop := c.Act.ok
structure TVLease where
  Ver : Int
  Until : Int
deriving DecidableEq, Inhabited
def TVLease.cs (c : TVLease) : List AV := [AV.int c.Ver, AV.int c.Until]
theorem TVLease.flat (c : TVLease) : ∀ x ∈ c.cs, Flat x := (B6 (D3 _ _) (B6 (D3 _ _) C9))
def TVLease.size (c : TVLease) : Nat := 0
structure TRenew where
  Now : Int
  Master : TClock
  Clocks : List TClock
  Ver : Int
  Leases : List TVLease
deriving DecidableEq, Inhabited
def TRenew.cs (c : TRenew) : List AV := [AV.int c.Now, AV.int c.Master.Off, AV.list 1 (c.Clocks.map TClock.cs), AV.int c.Ver, AV.list 2 (c.Leases.map TVLease.cs)]
def TRenew.size (c : TRenew) : Nat := c.Clocks.length + c.Leases.length
structure TRenewAct where
  Kind : Int
  Who : Int
  By : Int
deriving DecidableEq, Inhabited
def TRenewAct.cs (c : TRenewAct) : List AV := [AV.int c.Kind, AV.int c.Who, AV.int c.By]
theorem TRenewAct.flat (c : TRenewAct) : ∀ x ∈ c.cs, Flat x := (B6 (D3 _ _) (B6 (D3 _ _) (B6 (D3 _ _) C9)))
def TRenewAct.size (c : TRenewAct) : Nat := 0
structure TFill where
  Last : Str
  Over : Bool
deriving DecidableEq, Inhabited
def TFill.cs (c : TFill) : List AV := [AV.str c.Last, AV.bool c.Over]
theorem TFill.flat (c : TFill) : ∀ x ∈ c.cs, Flat x := (B6 (D5 _) (B6 (C7 _) C9))
def TFill.size (c : TFill) : Nat := c.Last.length
def TFill.ok (c : TFill) : Prop := c.Last.length ≤ 9223372036854775807
structure TWork where
  Shift : TShift
  Up : TFill
  Down : TFill
deriving DecidableEq, Inhabited
def TWork.cs (c : TWork) : List AV := [AV.str c.Shift.Name, AV.list 3 (c.Shift.Ways.map TTable.cs), ints c.Shift.At, AV.list 3 (c.Shift.Store.map TWrite.cs), AV.str c.Up.Last, AV.bool c.Up.Over, AV.str c.Down.Last, AV.bool c.Down.Over]
def TWork.size (c : TWork) : Nat := c.Shift.size + c.Up.size + c.Down.size
def TWork.ok (c : TWork) : Prop := c.Shift.ok ∧ c.Up.ok ∧ c.Down.ok
structure TWorkAct where
  Kind : Int
  Many : Int
  Act : TShiftAct
deriving DecidableEq, Inhabited
def TWorkAct.cs (c : TWorkAct) : List AV := [AV.int c.Kind, AV.int c.Many, AV.int c.Act.Server, AV.int c.Act.Step, AV.int c.Act.Act.Kind, strs c.Act.Act.Old.Vals, strs c.Act.Act.New.Vals]
def TWorkAct.size (c : TWorkAct) : Nat := c.Act.size
def TWorkAct.ok (c : TWorkAct) : Prop := c.Act.ok
structure TStmt where
  Kind : Int
  Act : TRowAct
  Idx : Str
  Low : Str
  High : Str
deriving DecidableEq, Inhabited
def TStmt.cs (c : TStmt) : List AV := [AV.int c.Kind, AV.int c.Act.Kind, strs c.Act.Old.Vals, strs c.Act.New.Vals, AV.str c.Idx, AV.str c.Low, AV.str c.High]
def TStmt.size (c : TStmt) : Nat := c.Act.size + c.Idx.length + c.Low.length + c.High.length
def TStmt.ok (c : TStmt) : Prop := c.Act.ok ∧ c.Idx.length ≤ 9223372036854775807 ∧ c.Low.length ≤ 9223372036854775807 ∧ c.High.length ≤ 9223372036854775807
structure TCopy where
  Time : Int
  Rows : List TWrite
deriving DecidableEq, Inhabited
def TCopy.cs (c : TCopy) : List AV := [AV.int c.Time, AV.list 3 (c.Rows.map TWrite.cs)]
def TCopy.size (c : TCopy) : Nat := sizeL TWrite.size c.Rows
def TCopy.ok (c : TCopy) : Prop := (∀ x ∈ c.Rows, x.ok)
structure TDiff where
  From : Int
  To : Int
  List_ : List TFeedItem
deriving DecidableEq, Inhabited
def TDiff.cs (c : TDiff) : List AV := [AV.int c.From, AV.int c.To, AV.list 5 (c.List_.map TFeedItem.cs)]
def TDiff.size (c : TDiff) : Nat := sizeL TFeedItem.size c.List_
def TDiff.ok (c : TDiff) : Prop := (∀ x ∈ c.List_, x.ok)
structure TLiveJob where
  Ver : Int
  Fill : Bool
  Act : TRowAct
  Row : TRow
deriving DecidableEq, Inhabited
def TLiveJob.cs (c : TLiveJob) : List AV := [AV.int c.Ver, AV.bool c.Fill, AV.int c.Act.Kind, strs c.Act.Old.Vals, strs c.Act.New.Vals, strs c.Row.Vals]
def TLiveJob.size (c : TLiveJob) : Nat := c.Act.size + c.Row.size
def TLiveJob.ok (c : TLiveJob) : Prop := c.Act.ok ∧ c.Row.ok
structure TLive where
  Name : Str
  Ways : List TTable
  Low : Int
  Since : List Int
  Jobs : List TLiveJob
  World : TWorld
deriving DecidableEq, Inhabited
def TLive.cs (c : TLive) : List AV := [AV.str c.Name, AV.list 3 (c.Ways.map TTable.cs), AV.int c.Low, ints c.Since, AV.list 6 (c.Jobs.map TLiveJob.cs), AV.int c.World.Now, AV.int c.World.Count, AV.list 1 (c.World.Clocks.map TClock.cs), strs c.World.Cuts, AV.list 3 (c.World.Groups.map TGroup.cs), AV.list 1 (c.World.Locks.map fun x => [AV.list 3 (x.map TLock.cs)]), ints c.World.Promised, AV.list 10 (c.World.Txns.map TWorldTxn.cs), AV.list 6 (c.World.Looks.map TWorldLook.cs)]
def TLive.size (c : TLive) : Nat := c.Name.length + sizeL TTable.size c.Ways + c.Since.length + sizeL TLiveJob.size c.Jobs + c.World.size
def TLive.ok (c : TLive) : Prop := c.Name.length ≤ 9223372036854775807 ∧ (∀ x ∈ c.Ways, x.ok) ∧ (∀ x ∈ c.Jobs, x.ok) ∧ c.World.ok
structure TLiveAct where
  Kind : Int
  Act : TWorldAct
deriving DecidableEq, Inhabited
def TLiveAct.cs (c : TLiveAct) : List AV := [AV.int c.Kind, AV.int c.Act.Kind, AV.int c.Act.At, AV.int c.Act.By]
theorem TLiveAct.flat (c : TLiveAct) : ∀ x ∈ c.cs, Flat x := (B6 (D3 _ _) (B6 (D3 _ _) (B6 (D3 _ _) (B6 (D3 _ _) C9))))
def TLiveAct.size (c : TLiveAct) : Nat := 0
structure TLetter where
  From : Int
  To : Int
  Due : Int
  Body : Str
deriving DecidableEq, Inhabited
def TLetter.cs (c : TLetter) : List AV := [AV.int c.From, AV.int c.To, AV.int c.Due, AV.str c.Body]
theorem TLetter.flat (c : TLetter) : ∀ x ∈ c.cs, Flat x := (B6 (D3 _ _) (B6 (D3 _ _) (B6 (D3 _ _) (B6 (D5 _) C9))))
def TLetter.size (c : TLetter) : Nat := c.Body.length
def TLetter.ok (c : TLetter) : Prop := c.Body.length ≤ 9223372036854775807
structure TNet where
  Now : Int
  Homes : List Int
  Far : Int
  Under : List TLetter
deriving DecidableEq, Inhabited
def TNet.cs (c : TNet) : List AV := [AV.int c.Now, ints c.Homes, AV.int c.Far, AV.list 4 (c.Under.map TLetter.cs)]
def TNet.size (c : TNet) : Nat := c.Homes.length + sizeL TLetter.size c.Under
def TNet.ok (c : TNet) : Prop := (∀ x ∈ c.Under, x.ok)
structure TVoter where
  Up : Bool
  Term : Int
  For : Int
  Yes : List Int
  Leads : Bool
deriving DecidableEq, Inhabited
def TVoter.cs (c : TVoter) : List AV := [AV.bool c.Up, AV.int c.Term, AV.int c.For, ints c.Yes, AV.bool c.Leads]
def TVoter.size (c : TVoter) : Nat := c.Yes.length
structure TWon where
  Term : Int
  Who : Int
deriving DecidableEq, Inhabited
def TWon.cs (c : TWon) : List AV := [AV.int c.Term, AV.int c.Who]
theorem TWon.flat (c : TWon) : ∀ x ∈ c.cs, Flat x := (B6 (D3 _ _) (B6 (D3 _ _) C9))
def TWon.size (c : TWon) : Nat := 0
structure TPoll where
  Voters : List TVoter
  Net : TNet
  Won : List TWon
deriving DecidableEq, Inhabited
def TPoll.cs (c : TPoll) : List AV := [AV.list 5 (c.Voters.map TVoter.cs), AV.int c.Net.Now, ints c.Net.Homes, AV.int c.Net.Far, AV.list 4 (c.Net.Under.map TLetter.cs), AV.list 2 (c.Won.map TWon.cs)]
def TPoll.size (c : TPoll) : Nat := sizeL TVoter.size c.Voters + c.Net.size + c.Won.length
def TPoll.ok (c : TPoll) : Prop := c.Net.ok
structure TPollAct where
  Kind : Int
  Who : Int
  By : Int
deriving DecidableEq, Inhabited
def TPollAct.cs (c : TPollAct) : List AV := [AV.int c.Kind, AV.int c.Who, AV.int c.By]
theorem TPollAct.flat (c : TPollAct) : ∀ x ∈ c.cs, Flat x := (B6 (D3 _ _) (B6 (D3 _ _) (B6 (D3 _ _) C9)))
def TPollAct.size (c : TPollAct) : Nat := 0
end Go.M

namespace Go.M

def within (n lo hi : Int) : Bool := decide (lo ≤ n) && decide (n ≤ hi)
def lowDig (b : UInt8) : Bool := (decide ((97 : Int) ≤ (b.toNat : Int)) && decide ((b.toNat : Int) ≤ 122)) || (decide ((48 : Int) ≤ (b.toNat : Int)) && decide ((b.toNat : Int) ≤ 57))
def idxB (s : Str) (c : UInt8) : Int := firstIdx ⟨s.toArray⟩ c
def hasB (s o : Str) : Bool := s.all fun c => !(!lowDig c && decide (idxB o c < 0))
def goodKey (s : Str) : Bool := within s.length 1 12 && hasB s [46, 47]
def goodVal (s : Str) : Bool := decide ((s.length : Int) ≤ 24) && hasB s [46, 45, 44, 95]
def l3Bytes (s o : Str) : Bool := s.all fun c => (lowDig c || o.any fun d => ((c.toNat : Int) == (d.toNat : Int)))
def l3Key (s : Str) : Bool := within s.length 1 12 && l3Bytes s [46, 47]
theorem Ac2 (c : UInt8) (s o : Str) : hasB (c :: s) o = (!(!lowDig c && decide (idxB o c < 0)) && hasB s o) := rfl
theorem AJ8 (c : UInt8) (s o : Str) : l3Bytes (c :: s) o = ((lowDig c || o.any fun d => ((c.toNat : Int) == (d.toNat : Int))) && l3Bytes s o) := rfl
end Go.M

namespace Go.M
end Go.M

namespace Go.M
theorem idxB_neg (o : Str) (c : UInt8) : decide (idxB o c < 0) = !(o.any fun d => ((c.toNat : Int) == (d.toNat : Int))) := by
  have hm : (o.any fun d => ((c.toNat : Int) == (d.toNat : Int))) = decide (c ∈ o) := by
    rw [Bool.eq_iff_iff]
    simp only [List.any_eq_true, beq_iff_eq, decide_eq_true_eq]
    constructor
    · rintro ⟨d, hd, he⟩
      have : c = d := UInt8.toNat_inj.1 (by exact_mod_cast he)
      exact this ▸ hd
    · intro h; exact ⟨c, h, rfl⟩
  rw [hm]
  unfold idxB firstIdx
  have hsz : (ByteArray.mk o.toArray).size = o.length := by simp [ByteArray.size]
  have hget : ∀ i, i < o.length → (ByteArray.mk o.toArray)[i]! = o[i]! := fun i hi => by
    simp [getElem!_def, ByteArray.getElem?_lt', hsz, hi]
    rfl
  rw [hsz]
  cases hf : (List.range o.length).find? fun i => (ByteArray.mk o.toArray)[i]! == c with
  | some i =>
    have h1 := List.find?_some hf
    have h2 := List.mem_range.1 (List.mem_of_find?_eq_some hf)
    rw [hget i h2] at h1
    have h3 : c ∈ o := by
      have : o[i]! = c := by simpa using h1
      rw [← this, getElem!_pos o i h2]
      exact List.getElem_mem h2
    simp [h3]
  | none =>
    have h1 := List.find?_eq_none.1 hf
    have h3 : ¬ c ∈ o := fun hm => by
      obtain ⟨i, hi, he⟩ := List.getElem_of_mem hm
      have := h1 i (List.mem_range.2 hi)
      rw [hget i hi, getElem!_pos o i hi, he] at this
      simp at this
    simp [h3]
theorem Au2 (s o : Str) : hasB s o = l3Bytes s o := by
  unfold hasB l3Bytes
  congr 1
  funext c
  rw [idxB_neg]
  cases lowDig c <;> simp
theorem l0 (s : Str) : goodKey s = l3Key s := by unfold goodKey l3Key; rw [Au2]
theorem J8 : ∀ a : Str, Op.bytesLess a a = false
  | [] => rfl
  | a :: x => by simp [Op.bytesLess, J8 x]
theorem bytesLess_tri : ∀ a b : Str, Op.bytesLess a b = !(Op.bytesLess b a || b == a)
  | [], [] => rfl
  | [], _ :: _ => rfl
  | _ :: _, [] => rfl
  | a :: x, b :: y => by
    have ih := bytesLess_tri x y
    simp only [Op.bytesLess]
    by_cases hab : a = b
    · subst hab
      simp [ih]
    · have h1 : (a == b) = false := by simpa using hab
      have h2 : (b == a) = false := by simpa using fun h => hab h.symm
      have h3 : (b :: y == a :: x) = false := by simp [h2]
      simp only [h1, h2, h3, Bool.false_and, Bool.or_false]
      rw [Bool.eq_iff_iff]
      simp only [decide_eq_true_eq, Bool.not_eq_true', decide_eq_false_iff_not, UInt8.not_lt]
      constructor
      · exact UInt8.le_of_lt
      · exact fun h => UInt8.lt_of_le_of_ne h hab
end Go.M

namespace Go.M
def adj {α : Type} (p : α → α → Bool) : List α → Bool
  | [] => true
  | [_] => true
  | x :: y :: l => p x y && adj p (y :: l)
theorem Ak2 {α : Type} {l : List α} {k : Nat} {x y : α} (hy : l[k]? = some y) (hx : l[k + 1]? = some x) : l.drop k = y :: x :: l.drop (k + 2) := by
  rw [Go.AV.drop_some hy, Go.AV.drop_some hx]
theorem c6 {α : Type} {p : α → α → Bool} {l : List α} {i : Nat} {x y : α} (hx : l[i]? = some x) (hy : l[i - 1]? = some y) (h : 0 < i → p y x = true) : adj p (l.drop (i - 1)) = adj p (l.drop (i + 1 - 1)) := by
  cases i with
  | zero => rfl
  | succ k =>
    simp only [Nat.add_sub_cancel] at *
    rw [Ak2 hy hx, Go.AV.drop_some hx, adj, h (by omega), Bool.true_and]
theorem c7 {α : Type} {p : α → α → Bool} {l : List α} {i : Nat} {x y : α} (hx : l[i]? = some x) (hy : l[i - 1]? = some y) (h0 : 0 < i) (h : p y x = false) : adj p (l.drop (i - 1)) = false := by
  cases i with
  | zero => omega
  | succ k =>
    simp only [Nat.add_sub_cancel] at *
    rw [Ak2 hy hx, adj, h, Bool.false_and]
theorem U2 {α : Type} {p : α → α → Bool} {l : List α} {i : Nat} (h : l.length ≤ i) : adj p (l.drop (i - 1)) = true := by
  have hl : (l.drop (i - 1)).length ≤ 1 := by rw [List.length_drop]; omega
  match hd : l.drop (i - 1), hl with
  | [], _ => rfl
  | [x], _ => rfl
theorem AJ9 {α : Type} {p q : α → α → Bool} (h : ∀ a b, p a b = q a b) : ∀ l : List α, adj p l = adj q l
  | [] => rfl
  | [_] => rfl
  | x :: y :: l => by rw [adj, adj, h, AJ9 h (y :: l)]
def isTime (t : Int) : Bool := within t 1 100000
def isGroup (g : Int) : Bool := within g 0 3
def isStored (val : Str) (gone : Bool) : Bool := goodVal val && !(gone && val != [])
def goodItem (c : TFeedItem) : Bool := isTime c.Time && isGroup c.Group && goodKey c.Key && isStored c.Val c.Gone
def l3Val (s : Str) : Bool := decide ((s.length : Int) ≤ 24) && l3Bytes s [46, 45, 44, 95]
def l3Write (key val : Str) (gone : Bool) : Bool := l3Key key && l3Val val && (!gone || val == [])
def l23Good (c : TFeedItem) : Bool := within c.Time 1 100000 && within c.Group 0 3 && l3Write c.Key c.Val c.Gone
def cmpInt (x y : Int) : Int := if x < y then -1 else if y < x then 1 else 0
def cmpStr (x y : Str) : Int := if Op.bytesLess x y then -1 else if Op.bytesLess y x then 1 else 0
def orInt : List Int → Int
  | [] => 0
  | x :: l => if x = 0 then orInt l else x
def compareItems (a b : TFeedItem) : Int := orInt [cmpInt a.Time b.Time, cmpInt a.Group b.Group, cmpStr a.Key b.Key]
def l23Ahead (a b : TFeedItem) : Bool := if a.Time ≠ b.Time then decide (a.Time < b.Time) else if a.Group ≠ b.Group then decide (a.Group < b.Group) else Op.bytesLess a.Key b.Key
def isFeed (l : List TFeedItem) : Bool := adj (fun a b => !decide (0 ≤ compareItems a b)) l && decide ((l.length : Int) ≤ 400)
def goodFeed (l : List TFeedItem) : Bool := isFeed l && !(l.any fun c => !goodItem c)
def l23Feed (l : List TFeedItem) : Bool := (l.all l23Good && adj l23Ahead l) && decide ((l.length : Int) ≤ 400)
theorem Aw5 (s : Str) : goodVal s = l3Val s := by unfold goodVal l3Val; rw [Au2]
theorem AB8 (s : Str) (g : Bool) : isStored s g = (l3Val s && (!g || s == [])) := by
  unfold isStored; rw [Aw5]; cases g <;> simp [bne]
theorem AB9 (c : TFeedItem) : goodItem c = l23Good c := by
  unfold goodItem l23Good l3Write isTime isGroup
  rw [AB8, l0]; simp only [Bool.and_assoc]
theorem s8 (a b : TFeedItem) : (!decide (0 ≤ compareItems a b)) = l23Ahead a b := by
  unfold compareItems l23Ahead orInt orInt orInt orInt cmpInt cmpStr
  have := bytesLess_tri a.Key b.Key
  by_cases h1 : a.Time < b.Time
  · simp [h1, show a.Time ≠ b.Time by omega]
  · by_cases h2 : b.Time < a.Time
    · simp [h1, h2, show a.Time ≠ b.Time by omega]
    · have h3 : a.Time = b.Time := by omega
      by_cases h4 : a.Group < b.Group
      · simp [h3, h4, show a.Group ≠ b.Group by omega]
      · by_cases h5 : b.Group < a.Group
        · simp [h3, h4, h5, show a.Group ≠ b.Group by omega]
        · have h6 : a.Group = b.Group := by omega
          simp only [h3, h6, Int.lt_irrefl, ne_eq, not_true_eq_false, if_false, if_true]
          cases h7 : Op.bytesLess a.Key b.Key <;> cases h8 : Op.bytesLess b.Key a.Key <;> simp
theorem AP8 (l : List TFeedItem) : goodFeed l = l23Feed l := by
  unfold goodFeed l23Feed isFeed
  rw [AJ9 s8, show (!(l.any fun c => !goodItem c)) = l.all l23Good by
    rw [List.not_any_eq_all_not]; congr 1; funext c; rw [Bool.not_not, AB9]]
  cases l.all l23Good <;> cases adj l23Ahead l <;> simp
end Go.M

namespace Go.M
theorem n2 {α : Type} {p : α → Bool} {l : List α} {i : Nat} {x : α} (hx : l[i]? = some x) (h : p x = true) : (l.drop i).all p = (l.drop (i + 1)).all p := by
  rw [Go.AV.drop_some hx, List.all_cons, h, Bool.true_and]
theorem g9 {α : Type} {p : α → Bool} {l : List α} {i : Nat} {x : α} (hx : l[i]? = some x) (h : p x = false) : (l.drop i).all p = false := by
  rw [Go.AV.drop_some hx, List.all_cons, h, Bool.false_and]
theorem W9 {α : Type} {p : α → Bool} {l : List α} {i : Nat} (h : l.length ≤ i) : (l.drop i).all p = true := by
  rw [List.drop_eq_nil_of_le h]; rfl
end Go.M

namespace Go.M
theorem Z7 {α β : Type} {f : α → β} {l : List α} {i : Nat} {x : α} (h : l[i]? = some x) : (l.take i).map f ++ [f x] = (l.take (i + 1)).map f := by
  rw [List.take_add_one, h]; simp
def areRising (l : List Str) : Bool := l.all goodKey && adj Op.bytesLess l
def wKeys (l : List TWrite) : List Str := l.map TWrite.Key
def goodWrites (l : List TWrite) : Bool := decide ((l.length : Int) ≤ 24) && areRising (wKeys l) && !(l.any fun w => !isStored w.Val w.Gone)
def wLess (a b : TWrite) : Bool := Op.bytesLess a.Key b.Key
def wGood (w : TWrite) : Bool := l3Write w.Key w.Val w.Gone
def l3Writes (l : List TWrite) : Bool := (l.all wGood && adj wLess l) && decide ((l.length : Int) ≤ 24)
theorem AO4 {α β : Type} (f : α → β) (p : β → β → Bool) : ∀ l : List α, adj p (l.map f) = adj (fun a b => p (f a) (f b)) l
  | [] => rfl
  | [_] => rfl
  | x :: y :: l => by
    have := AO4 f p (y :: l)
    simp only [List.map_cons, adj] at *
    rw [this]
theorem AI2 (l : List TWrite) : goodWrites l = l3Writes l := by
  unfold goodWrites l3Writes areRising wKeys
  rw [AO4, List.all_map, List.not_any_eq_all_not]
  have h2 : l.all wGood = ((l.all (goodKey ∘ TWrite.Key)) && l.all fun w => l3Val w.Val && (!w.Gone || w.Val == [])) := by
    induction l with
    | nil => rfl
    | cons w l ih =>
      simp only [List.all_cons, ih, wGood, l3Write, Function.comp, l0, Bool.and_assoc]
      cases l3Key w.Key <;> cases l3Val w.Val <;> cases (!w.Gone || w.Val == []) <;> simp only [Bool.true_and, Bool.and_true, Bool.false_and, Bool.and_false]
  have h1 : (l.all fun w => !!isStored w.Val w.Gone) = l.all fun w => l3Val w.Val && (!w.Gone || w.Val == []) := by
    congr 1; funext w; rw [Bool.not_not, AB8]
  rw [h1, h2]
  show _ = _
  have h3 : adj (fun a b => Op.bytesLess a.Key b.Key) l = adj wLess l := rfl
  rw [h3]
  cases l.all (goodKey ∘ TWrite.Key) <;> cases adj wLess l <;> cases decide ((l.length : Int) ≤ 24) <;> cases (l.all fun w => l3Val w.Val && (!w.Gone || w.Val == [])) <;> rfl
end Go.M

namespace Go.M
structure TSrc where
  at' : Nat
  bad : Bool
end Go.M

namespace Go.M
end Go.M

namespace Go.M
open Go.AV
def isTxnR (n : Int) : Bool := within n 1 60
def bareR (r : TRec) : Bool := ((r.Lead == 0) && ((r.Reads.length : Int) == 0)) && ((r.Writes.length : Int) == 0)
def good1 (r : TRec) : Bool := (((((((isTxnR r.Txn && isTime r.Time) && within r.Lead 0 3) && decide ((r.Reads.length : Int) ≤ 8)) && areRising r.Reads) && decide ((r.Writes.length : Int) ≤ 8)) && goodWrites r.Writes) && decide (0 < (r.Reads.length : Int) + (r.Writes.length : Int))) && !r.Yes
def good2 (r : TRec) : Bool := (bareR r && isTxnR r.Txn) && ((r.Yes && isTime r.Time) || (!r.Yes && (r.Time == 0)))
def good4 (r : TRec) : Bool := ((bareR r && (r.Txn == 0)) && isTime r.Time) && !r.Yes
def goodRec (r : TRec) : Bool := if r.Kind = 1 then good1 r else if r.Kind = 2 ∨ r.Kind = 3 then good2 r else if r.Kind = 4 then good4 r else false
def l4Keys (l : List Str) : Bool := (l.all l3Key && adj Op.bytesLess l) && decide ((l.length : Int) ≤ 8)
def oddR (r : TRec) : Bool := (r.Kind != 1) && ((r.Lead != 0) || decide (0 < (r.Reads.length : Int) + (r.Writes.length : Int)))
def l4G1 (r : TRec) : Bool := ((((((within r.Txn 1 60 && within r.Time 1 100000) && within r.Lead 0 3) && l4Keys r.Reads) && l3Writes r.Writes) && within (r.Writes.length : Int) 0 8) && decide (0 < (r.Reads.length : Int) + (r.Writes.length : Int))) && !r.Yes
def l4G2 (r : TRec) : Bool := within r.Txn 1 60 && ((r.Yes && within r.Time 1 100000) || (!r.Yes && (r.Time == 0)))
def l4G4 (r : TRec) : Bool := (((r.Kind == 4) && (r.Txn == 0)) && within r.Time 1 100000) && !r.Yes
def l4Good (r : TRec) : Bool := if oddR r = true then false else if r.Kind = 1 then l4G1 r else if r.Kind = 2 ∨ r.Kind = 3 then l4G2 r else l4G4 r
theorem bare_odd {r : TRec} (h : r.Kind ≠ 1) : bareR r = !oddR r := by
  have hk : (r.Kind != 1) = true := by simpa using h
  unfold bareR oddR
  rw [hk, Bool.true_and, Bool.eq_iff_iff]
  simp only [Bool.and_eq_true, beq_iff_eq, Bool.not_eq_true', Bool.or_eq_false_iff, bne_eq_false_iff_eq, decide_eq_false_iff_not]
  omega
theorem keys_eq (l : List Str) : (decide ((l.length : Int) ≤ 8) && areRising l) = l4Keys l := by
  unfold areRising l4Keys
  rw [show l.all goodKey = l.all l3Key by congr 1; funext s; rw [l0]]
  rw [Bool.and_comm]
theorem AG0 (r : TRec) : goodRec r = l4Good r := by
  unfold goodRec l4Good
  by_cases h1 : r.Kind = 1
  · have ho : oddR r = false := by unfold oddR; rw [h1]; rfl
    rw [if_pos h1, ho, if_neg (by decide), if_pos h1]
    unfold good1 l4G1
    rw [← keys_eq, ← AI2]
    have hw : within (r.Writes.length : Int) 0 8 = decide ((r.Writes.length : Int) ≤ 8) := by unfold within; simp
    rw [hw]
    unfold isTxnR isTime
    cases within r.Txn 1 60 <;> cases within r.Time 1 100000 <;> cases within r.Lead 0 3 <;> cases decide ((r.Reads.length : Int) ≤ 8) <;> cases areRising r.Reads <;> cases decide ((r.Writes.length : Int) ≤ 8) <;> cases goodWrites r.Writes <;> simp
  · have hb := bare_odd h1
    rw [if_neg h1, if_neg h1]
    by_cases h2 : r.Kind = 2 ∨ r.Kind = 3
    · rw [if_pos h2, if_pos h2]
      unfold good2 l4G2
      rw [hb]
      cases oddR r <;> simp [isTxnR, isTime]
    · rw [if_neg h2, if_neg h2]
      unfold l4G4
      by_cases h4 : r.Kind = 4
      · rw [if_pos h4]
        unfold good4
        rw [hb, h4]
        cases oddR r <;> simp [isTime]
      · rw [if_neg h4]
        have e4 : (r.Kind == 4) = false := by simpa using h4
        rw [e4]; cases oddR r <;> simp
structure GoodR (r : TRec) : Prop where
  kind : 1 ≤ r.Kind ∧ r.Kind ≤ 4
  txn : 0 ≤ r.Txn ∧ r.Txn ≤ 60
  time : 0 ≤ r.Time ∧ r.Time ≤ 100000
  lead : 0 ≤ r.Lead ∧ r.Lead ≤ 3
  reads : r.Reads.length ≤ 8 ∧ ∀ s ∈ r.Reads, l3Key s = true
  writes : r.Writes.length ≤ 8 ∧ ∀ w ∈ r.Writes, l3Key w.Key = true ∧ l3Val w.Val = true ∧ (w.Gone = true → w.Val = [])
theorem Ac3 {r : TRec} (h : bareR r = true) : r.Lead = 0 ∧ r.Reads = [] ∧ r.Writes = [] := by
  unfold bareR at h
  simp only [Bool.and_eq_true, beq_iff_eq] at h
  exact ⟨h.1.1, List.eq_nil_of_length_eq_zero (by omega), List.eq_nil_of_length_eq_zero (by omega)⟩
theorem goodR {r : TRec} (h : goodRec r = true) : GoodR r := by
  unfold goodRec at h
  split at h
  · rename_i hk
    unfold good1 isTxnR isTime within at h
    simp only [Bool.and_eq_true, decide_eq_true_eq] at h
    obtain ⟨⟨⟨⟨⟨⟨⟨⟨h1, h2⟩, h3⟩, h4⟩, h5⟩, h6⟩, h7⟩, _⟩, _⟩ := h
    rw [AI2] at h7
    unfold l3Writes at h7
    unfold areRising at h5
    simp only [Bool.and_eq_true, List.all_eq_true] at h5 h7
    refine ⟨by omega, by omega, by omega, by omega, ⟨by omega, fun s hs => by rw [← l0]; exact h5.1 s hs⟩, ⟨by omega, fun w hw => ?_⟩⟩
    have := h7.1.1 w hw
    unfold wGood l3Write at this
    simp only [Bool.and_eq_true, Bool.or_eq_true, Bool.not_eq_true'] at this
    exact ⟨this.1.1, this.1.2, fun e => by rcases this.2 with g | g; rw [e] at g; cases g; simpa using g⟩
  · split at h
    · rename_i hk
      unfold good2 isTxnR isTime within at h
      simp only [Bool.and_eq_true, Bool.or_eq_true, decide_eq_true_eq, beq_iff_eq, Bool.not_eq_true'] at h
      obtain ⟨⟨h1, h2⟩, h3⟩ := h
      obtain ⟨l1, l2, l3⟩ := Ac3 h1
      refine ⟨by omega, by omega, by omega, by omega, by rw [l2]; exact ⟨Nat.zero_le _, fun s hs => by cases hs⟩, by rw [l3]; exact ⟨Nat.zero_le _, fun s hs => by cases hs⟩⟩
    · split at h
      · rename_i hk
        unfold good4 isTime within at h
        simp only [Bool.and_eq_true, decide_eq_true_eq, beq_iff_eq, Bool.not_eq_true'] at h
        obtain ⟨⟨⟨h1, h2⟩, h3⟩, _⟩ := h
        obtain ⟨l1, l2, l3⟩ := Ac3 h1
        refine ⟨by omega, by omega, by omega, by omega, by rw [l2]; exact ⟨Nat.zero_le _, fun s hs => by cases hs⟩, by rw [l3]; exact ⟨Nat.zero_le _, fun s hs => by cases hs⟩⟩
      · cases h
theorem AV3 {s : Str} (h : l3Key s = true) : s.length ≤ 12 := by
  unfold l3Key within at h
  simp only [Bool.and_eq_true, decide_eq_true_eq] at h
  have := h.1; omega
theorem Aw6 {s : Str} (h : l3Val s = true) : s.length ≤ 24 := by
  unfold l3Val at h
  simp only [Bool.and_eq_true, decide_eq_true_eq] at h
  have := h.1; omega
end Go.M

set_option linter.unusedSectionVars false
namespace Go.M
open Go.AV
section
variable {α : Type} [Inhabited α]
structure Swo (lt : α → α → Bool) : Prop where
  asym : ∀ a b, lt a b = true → lt b a = false
  ntr : ∀ a b c, lt b a = false → lt c b = false → lt c a = false
def SortedOn (lt : α → α → Bool) (l : List α) (a b : Nat) : Prop := ∀ (i j : Nat) (x y : α), a ≤ i → i < j → j < b → l[i]? = some x → l[j]? = some y → lt y x = false
def InR (l : List α) (a b : Nat) (x : α) : Prop := ∃ i, a ≤ i ∧ i < b ∧ l[i]? = some x
structure Shuf (l l' : List α) (a b : Nat) : Prop where
  len : l'.length = l.length
  perm : l'.Perm l
  out : ∀ i, i < a ∨ b ≤ i → l'[i]? = l[i]?
  inn : ∀ x, InR l' a b x → InR l a b x
theorem Shuf.refl (l : List α) (a b : Nat) : Shuf l l a b := ⟨rfl, List.Perm.refl _, fun _ _ => rfl, fun _ h => h⟩
theorem Shuf.trans {l l' l'' : List α} {a b : Nat} (h : Shuf l l' a b) (k : Shuf l' l'' a b) : Shuf l l'' a b :=
  ⟨k.len.trans h.len, k.perm.trans h.perm, fun i hi => (k.out i hi).trans (h.out i hi), fun x hx => h.inn x (k.inn x hx)⟩
end
end Go.M

namespace Go.M
open Go.AV
section
variable {α : Type} [Inhabited α] [DecidableEq α]
def cmpN (l : List α) : Nat → List α
  | 0 => []
  | n + 1 => if n ≠ 0 ∧ l[n]? = l[n - 1]? then cmpN l n else cmpN l n ++ (l[n]?).toList
def cmpL (l : List α) : List α := cmpN l l.length
theorem Ak3 (l : List α) : ∀ n, (cmpN l n).length ≤ n
  | 0 => Nat.le_refl _
  | n + 1 => by
    have h := Ak3 l n
    show (if n ≠ 0 ∧ l[n]? = l[n - 1]? then cmpN l n else cmpN l n ++ (l[n]?).toList).length ≤ n + 1
    split
    · omega
    · rw [J4]
      cases l[n]? <;> simp <;> omega
theorem Ac4 {l : List α} {n : Nat} (h0 : n ≠ 0) (h : l[n]? = l[n - 1]?) : cmpN l (n + 1) = cmpN l n := if_pos ⟨h0, h⟩
theorem Ac5 {l : List α} {n : Nat} {x : α} (hx : l[n]? = some x) (h : n = 0 ∨ l[n]? ≠ l[n - 1]?) : cmpN l (n + 1) = cmpN l n ++ [x] := by
  show (if n ≠ 0 ∧ l[n]? = l[n - 1]? then cmpN l n else cmpN l n ++ (l[n]?).toList) = _
  rw [if_neg (fun e => h.elim (fun f => e.1 f) fun f => f e.2), hx]; rfl
theorem AA8 {l : List α} : ∀ {n : Nat}, n ≤ l.length → (∀ i, 1 ≤ i → i < n → l[i]? ≠ l[i - 1]?) → cmpN l n = l.take n
  | 0, _, _ => by rw [List.take_zero]; rfl
  | n + 1, hn, h => by
    have hx : l[n]? = some l[n] := List.getElem?_eq_getElem (by omega)
    rw [Ac5 hx (by by_cases e : n = 0; exact .inl e; exact .inr (h n (by omega) (by omega))), AA8 (by omega) (fun i h1 h2 => h i h1 (by omega)), List.take_add_one, hx]; rfl
theorem AK0 {m l : List α} {i j : Nat} {x : α} (h : m.drop i = l.drop i) (hx : l[j]? = some x) (hij : i ≤ j) : m[j]? = some x := by
  have h1 := congrArg (fun z : List α => z[j - i]?) h
  simp only [List.getElem?_drop, show i + (j - i) = j by omega] at h1
  rw [h1, hx]
theorem cmp_keep {l m : List α} {k i j : Nat} {x y : α} (h : 1 ≤ j ∧ k + j ≤ l.length ∧ i + 1 ≤ k + j ∧ m.length = l.length ∧ m.take i = cmpN l (k + j) ∧ m.drop (k + j - 1) = l.drop (k + j - 1)) (hlt : k + j < l.length) (hx : l[k + j]? = some x) (hy : l[k + j - 1]? = some y) (hn : x ≠ y) :
    1 ≤ j + 1 ∧ k + (j + 1) ≤ l.length ∧ i + 1 + 1 ≤ k + (j + 1) ∧ (m.set i x).length = l.length ∧ (m.set i x).take (i + 1) = cmpN l (k + (j + 1)) ∧ (m.set i x).drop (k + (j + 1) - 1) = l.drop (k + (j + 1) - 1) := by
  obtain ⟨h1, h2, h3, h4, h5, h6⟩ := h
  refine ⟨by omega, by omega, by omega, by rw [List.length_set, h4], ?_, ?_⟩
  · rw [List.take_add_one, List.getElem?_set_self (by omega), List.take_set_of_le (Nat.le_refl _), h5, ← Nat.add_assoc, Ac5 hx (.inr (by rw [hx, hy]; intro e; injection e with e; exact hn e))]; rfl
  · rw [List.drop_set_of_lt (by omega), show k + (j + 1) - 1 = k + j - 1 + 1 by omega, ← List.drop_drop, h6, List.drop_drop]
theorem cmp_skip {l m : List α} {k i j : Nat} {x y : α} (h : 1 ≤ j ∧ k + j ≤ l.length ∧ i + 1 ≤ k + j ∧ m.length = l.length ∧ m.take i = cmpN l (k + j) ∧ m.drop (k + j - 1) = l.drop (k + j - 1)) (hlt : k + j < l.length) (hx : l[k + j]? = some x) (hy : l[k + j - 1]? = some y) (hn : x = y) :
    1 ≤ j + 1 ∧ k + (j + 1) ≤ l.length ∧ i + 1 ≤ k + (j + 1) ∧ m.length = l.length ∧ m.take i = cmpN l (k + (j + 1)) ∧ m.drop (k + (j + 1) - 1) = l.drop (k + (j + 1) - 1) := by
  obtain ⟨h1, h2, h3, h4, h5, h6⟩ := h
  refine ⟨by omega, by omega, by omega, h4, ?_, ?_⟩
  · rw [h5, ← Nat.add_assoc, Ac4 (by omega) (by rw [hx, hy, hn])]
  · rw [show k + (j + 1) - 1 = k + j - 1 + 1 by omega, ← List.drop_drop, h6, List.drop_drop]
theorem AZ1 {l m : List α} {f : α → List AV} {k i j q : Nat} {z : List AV} (h : m.take i = cmpN l (k + j)) (hk : k + j = l.length) (hi : i ≤ m.length) : (((m.map f).take (i : Int).toNat ++ List.replicate q z).take (i : Int).toNat) = (cmpL l).map f := by
  unfold cmpL
  rw [← hk, ← h, Int.toNat_natCast, List.map_take, List.take_left' (by rw [E6, A9]; omega)]
end
end Go.M

namespace Go.M
theorem O4 : ∀ {a b c : Str}, Op.bytesLess a b = true → Op.bytesLess b c = true → Op.bytesLess a c = true
  | [], b, c, h1, h2 => by
    cases c with
    | nil => cases b <;> simp [Op.bytesLess] at h2
    | cons z c => rfl
  | x :: a, [], _, h1, _ => by simp [Op.bytesLess] at h1
  | x :: a, y :: b, [], _, h2 => by simp [Op.bytesLess] at h2
  | x :: a, y :: b, z :: c, h1, h2 => by
    simp only [Op.bytesLess, Bool.or_eq_true, Bool.and_eq_true, decide_eq_true_eq, beq_iff_eq] at h1 h2 ⊢
    rcases h1 with h1 | ⟨h1, h1'⟩
    · rcases h2 with h2 | ⟨h2, _⟩
      · exact .inl (UInt8.lt_trans h1 h2)
      · subst h2; exact .inl h1
    · subst h1
      rcases h2 with h2 | ⟨h2, h2'⟩
      · exact .inl h2
      · exact .inr ⟨h2, O4 h1' h2'⟩
theorem d8 (a b : Str) : cmpStr a b < 0 ↔ Op.bytesLess a b = true := by
  unfold cmpStr
  cases h1 : Op.bytesLess a b
  · cases h2 : Op.bytesLess b a <;> simp
  · simp
theorem AC0 (a b : Str) : cmpStr a b = 0 ↔ a = b := by
  unfold cmpStr
  have h3 := bytesLess_tri a b
  cases h1 : Op.bytesLess a b
  · cases h2 : Op.bytesLess b a
    · rw [h1, h2] at h3; simp at h3; simp [h3]
    · simp; intro h; subst h; rw [h1] at h2; cases h2
  · simp; intro h; subst h; rw [J8] at h1; cases h1
theorem AO5 {α : Type} {p : α → α → Bool} (tr : ∀ a b c, p a b = true → p b c = true → p a c = true) : ∀ {l : List α} {x : α}, adj p (x :: l) = true → ∀ y ∈ l, p x y = true
  | [], _, _, y, hy => by simp at hy
  | z :: l, x, h, y, hy => by
    simp only [adj, Bool.and_eq_true] at h
    rcases List.mem_cons.1 hy with rfl | hy
    · exact h.1
    · exact tr _ _ _ h.1 (AO5 tr h.2 y hy)
theorem AS3 {α : Type} {p : α → α → Bool} {l : List α} {x : α} (h : adj p (x :: l) = true) : adj p l = true := by
  cases l with
  | nil => rfl
  | cons y l => simp only [adj, Bool.and_eq_true] at h; exact h.2
theorem d9 {α : Type} {p : α → α → Bool} (tr : ∀ a b c, p a b = true → p b c = true → p a c = true) : ∀ {l : List α}, adj p l = true → ∀ {i j : Nat} {x y : α}, i < j → l[i]? = some x → l[j]? = some y → p x y = true
  | [], _, i, j, x, y, _, hx, _ => by simp at hx
  | z :: l, h, 0, j + 1, x, y, _, hx, hy => by
    simp at hx; subst hx
    exact AO5 tr h y (G6 (by simpa using hy))
  | z :: l, h, i + 1, j + 1, x, y, hij, hx, hy => d9 tr (AS3 h) (by omega : i < j) (by simpa using hx) (by simpa using hy)
theorem AZ2 {α : Type} (f : α → Int) (l : List α) (down : ∀ (i j : Nat) (x y : α), i < j → l[i]? = some x → l[j]? = some y → f y < 0 → f x < 0) : ∀ (d i j : Nat), j - i = d → i ≤ j → j ≤ l.length →
    (∀ k x, k < i → l[k]? = some x → f x < 0) → (∀ x, l[j]? = some x → ¬ f x < 0) → (∀ k x, k < bs f l i j → l[k]? = some x → f x < 0) ∧ (∀ x, l[bs f l i j]? = some x → ¬ f x < 0) := by
  intro d
  induction d using Nat.strongRecOn with
  | _ d ih =>
    intro i j hd hij hjl hlo hhi
    by_cases h : i < j
    · obtain ⟨x, hx⟩ := Go.AV.get_some (show (i + j) / 2 < l.length by omega)
      by_cases hf : f x < 0
      · rw [Ai5 h hx hf]
        refine ih (j - ((i + j) / 2 + 1)) (by omega) _ _ rfl (by omega) hjl (fun k y hk hy => ?_) hhi
        rcases Nat.lt_or_ge k ((i + j) / 2) with h1 | h1
        · exact down k _ y x h1 hy hx hf
        · have : k = (i + j) / 2 := by omega
          subst this
          rw [hx] at hy; injection hy with hy; subst hy; exact hf
      · rw [Ai6 h hx hf]
        exact ih ((i + j) / 2 - i) (by omega) _ _ rfl (by omega) (by omega) hlo (fun y hy => by rw [hx] at hy; injection hy with hy; subst hy; exact hf)
    · rw [AV2 h]
      have : i = j := by omega
      subst this
      exact ⟨hlo, hhi⟩
def wCmp (k : Str) (w : TWrite) : Int := cmpStr w.Key k
def wPos (l : List TWrite) (k : Str) : Nat := bs (wCmp k) l 0 l.length
def wHas (l : List TWrite) (k : Str) : Bool := bsAt (wCmp k) l (wPos l k)
theorem AP9 (a b c : TWrite) (h : wLess a b = true) (k : wLess b c = true) : wLess a c = true := O4 h k
theorem BA9 {l : List TWrite} (h : adj wLess l = true) (k : Str) : (∀ i x, i < wPos l k → l[i]? = some x → Op.bytesLess x.Key k = true) ∧ (∀ x, l[wPos l k]? = some x → Op.bytesLess x.Key k = false) := by
  have := AZ2 (wCmp k) l (fun i j x y hij hx hy hf => by
    unfold wCmp at *
    rw [d8] at *
    exact O4 (d9 AP9 h hij hx hy) hf) l.length 0 l.length rfl (Nat.zero_le _) (Nat.le_refl _) (fun k x hk => by omega) (fun x hx => by rw [List.getElem?_eq_none (Nat.le_refl _)] at hx; cases hx)
  refine ⟨fun i x hi hx => (d8 _ _).1 (this.1 i x hi hx), fun x hx => ?_⟩
  have h2 := this.2 x hx
  unfold wCmp at h2
  rw [d8] at h2
  simpa using h2
def findW (l : List TWrite) (k : Str) : Option TWrite := l.find? fun w => w.Key == k
theorem findW_eq {l : List TWrite} (h : adj wLess l = true) (k : Str) : findW l k = if wHas l k = true then l[wPos l k]? else none := by
  obtain ⟨h1, h2⟩ := BA9 h k
  have hat : ∀ w ∈ l, w.Key = k → l[wPos l k]? = some w := fun w hw he => by
    obtain ⟨i, hi⟩ := List.getElem?_of_mem hw
    rcases Nat.lt_trichotomy i (wPos l k) with hlt | heq | hgt
    · have := h1 i w hlt hi
      rw [he, J8] at this; cases this
    · rw [← heq]; exact hi
    · obtain ⟨y, hy⟩ := Go.AV.get_some (show wPos l k < l.length by have := (List.getElem?_eq_some_iff.1 hi).1; omega)
      have h3 := h2 y hy
      have h4 := d9 AP9 h hgt hy hi
      unfold wLess at h4
      rw [he, h3] at h4; cases h4
  unfold wHas bsAt findW
  cases hp : l[wPos l k]? with
  | none =>
    simp only [Bool.false_eq_true, if_false]
    rw [List.find?_eq_none]
    intro w hw
    simp only [beq_iff_eq]
    intro he
    have := hat w hw he
    rw [hp] at this; cases this
  | some y =>
    simp only [wCmp, beq_iff_eq, AC0]
    by_cases hk : y.Key = k
    · rw [if_pos hk]
      cases hf : l.find? fun w => w.Key == k with
      | none =>
        have := List.find?_eq_none.1 hf y (G6 hp)
        simp [hk] at this
      | some w =>
        have h5 := List.find?_some hf
        have h6 := hat w (List.mem_of_find?_eq_some hf) (by simpa using h5)
        rw [hp] at h6; exact h6.symm
    · rw [if_neg hk, List.find?_eq_none]
      intro w hw
      simp only [beq_iff_eq]
      intro he
      have := hat w hw he
      rw [hp] at this; injection this with this; subst this; exact hk he
end Go.M

namespace Go.M
end Go.M

namespace Go.M
theorem wHas_iff {l : List TWrite} {k : Str} : wHas l k = true ↔ ∃ x, l[wPos l k]? = some x ∧ x.Key = k := by
  unfold wHas bsAt
  cases h : l[wPos l k]? with
  | none => simp
  | some x => simp [wCmp, AC0]
theorem Ak4 {α : Type} {p : α → α → Bool} (tr : ∀ a b c, p a b = true → p b c = true → p a c = true) : ∀ {l : List α}, adj p l = true ↔ l.Pairwise fun a b => p a b = true
  | [] => by simp [adj]
  | [x] => by simp [adj]
  | x :: y :: l => by
    rw [adj, Bool.and_eq_true, Ak4 tr, List.pairwise_cons (a := x)]
    constructor
    · intro ⟨h1, h2⟩
      refine ⟨fun z hz => ?_, h2⟩
      rcases List.mem_cons.1 hz with rfl | hz
      · exact h1
      · exact tr _ _ _ h1 (List.rel_of_pairwise_cons h2 hz)
    · intro ⟨h1, h2⟩
      exact ⟨h1 y List.mem_cons_self, h2⟩
theorem Au3 (a b : Str) : (!(Op.bytesLess a b || a == b)) = Op.bytesLess b a := by
  have h := bytesLess_tri a b
  cases h1 : Op.bytesLess a b
  · cases h2 : Op.bytesLess b a
    · rw [h1, h2] at h; simp at h; simp [h]
    · simp; intro hc; subst hc; rw [J8] at h2; cases h2
  · simp; cases h2 : Op.bytesLess b a with
    | false => rfl
    | true => have := O4 h1 h2; rw [J8] at this; cases this
end Go.M

namespace Go.M
def leastI (a b : Int) : Int := if a < b then a else b
end Go.M

namespace Go.M
theorem Aw7 {n a b : Int} : within n a b = true ↔ a ≤ n ∧ n ≤ b := by unfold within; simp
theorem Aq8 {k : Str} (h : goodKey k = true) : k.length ≤ 12 := by
  unfold goodKey at h; simp only [Bool.and_eq_true, Aw7] at h; omega
end Go.M

namespace Go.M
end Go.M

namespace Go.M
theorem AA9 (a b : Str) : Op.bytesLess a b = true ∨ a = b ∨ Op.bytesLess b a = true := by
  have h := bytesLess_tri a b
  cases h1 : Op.bytesLess a b
  · cases h2 : Op.bytesLess b a
    · rw [h1, h2] at h; simp at h; exact .inr (.inl h.symm)
    · exact .inr (.inr rfl)
  · exact .inl rfl
end Go.M

namespace Go.M
open Go.AV
def SrtS (l : List Str) : Prop := l.Pairwise fun a b => Op.bytesLess a b = true
theorem Ak5 : ∀ {a b : List Str}, SrtS a → SrtS b → (∀ x, x ∈ a ↔ x ∈ b) → a = b
  | [], [], _, _, _ => rfl
  | [], y :: b, _, _, h => by have := (h y).2 List.mem_cons_self; cases this
  | x :: a, [], _, _, h => by have := (h x).1 List.mem_cons_self; cases this
  | x :: a, y :: b, ha, hb, h => by
    obtain ⟨a1, a2⟩ := List.pairwise_cons.1 ha
    obtain ⟨b1, b2⟩ := List.pairwise_cons.1 hb
    have asym : ∀ {u v : Str}, Op.bytesLess u v = true → Op.bytesLess v u = true → False := fun h k => by
      have := O4 h k; rw [J8] at this; cases this
    have e : x = y := by
      rcases List.mem_cons.1 ((h x).1 List.mem_cons_self) with e | e
      · exact e
      · rcases List.mem_cons.1 ((h y).2 List.mem_cons_self) with f | f
        · exact f.symm
        · exact (asym (b1 x e) (a1 y f)).elim
    subst e
    rw [Ak5 a2 b2 fun z => ?_]
    constructor
    · intro hz
      rcases List.mem_cons.1 ((h z).1 (List.mem_cons_of_mem _ hz)) with e | e
      · subst e; have := a1 z hz; rw [J8] at this; cases this
      · exact e
    · intro hz
      rcases List.mem_cons.1 ((h z).2 (List.mem_cons_of_mem _ hz)) with e | e
      · subst e; have := b1 z hz; rw [J8] at this; cases this
      · exact e
def sortS (l : List Str) : List Str := l.mergeSort fun x y => decide (x ≤ y)
theorem le_less (x y : Str) : decide (x ≤ y) = !Op.bytesLess y x := by
  rw [Go.Proofs.bytesLess_eq]
  by_cases h : y < x
  · simp [h, List.not_le.2 h]
  · simp [h, List.not_lt.1 h]
theorem BB0 (l : List Str) (z : Str) : z ∈ sortS l ↔ z ∈ l := (List.mergeSort_perm l _).mem_iff
theorem AK1 (l : List Str) : (sortS l).length = l.length := List.length_mergeSort l
theorem Aw8 (l : List Str) : (sortS l).Pairwise fun a b => Op.bytesLess b a = false := by
  have h := List.pairwise_mergeSort (le := fun x y : Str => decide (x ≤ y)) (fun a b c h1 h2 => by
    simp only [decide_eq_true_eq] at *; exact List.le_trans h1 h2) (fun a b => by
    simp only [Bool.or_eq_true, decide_eq_true_eq]; exact List.le_total a b) l
  refine h.imp fun {a b} hab => ?_
  rw [le_less] at hab
  simpa using hab
theorem AB0 {l : List Str} {z : Str} : ∀ {n : Nat}, z ∈ cmpN l n ↔ ∃ i, i < n ∧ l[i]? = some z
  | 0 => by constructor
            · intro h; cases h
            · rintro ⟨i, h, _⟩; omega
  | n + 1 => by
    show z ∈ (if n ≠ 0 ∧ l[n]? = l[n - 1]? then cmpN l n else cmpN l n ++ (l[n]?).toList) ↔ _
    split
    · rename_i h
      rw [AB0]
      constructor
      · exact fun ⟨i, h1, h2⟩ => ⟨i, by omega, h2⟩
      · intro ⟨i, h1, h2⟩
        by_cases e : i = n
        · subst e; exact ⟨i - 1, by omega, h.2 ▸ h2⟩
        · exact ⟨i, by omega, h2⟩
    · rw [List.mem_append, AB0, Option.mem_toList]
      constructor
      · rintro (⟨i, h1, h2⟩ | h)
        · exact ⟨i, by omega, h2⟩
        · exact ⟨n, by omega, h⟩
      · intro ⟨i, h1, h2⟩
        by_cases e : i = n
        · subst e; exact .inr h2
        · exact .inl ⟨i, by omega, h2⟩
theorem BB1 (l : List Str) (z : Str) : z ∈ cmpL l ↔ z ∈ l := by
  unfold cmpL
  rw [AB0]
  constructor
  · exact fun ⟨i, _, h⟩ => G6 h
  · intro h
    obtain ⟨i, hi⟩ := List.getElem?_of_mem h
    exact ⟨i, (List.getElem?_eq_some_iff.1 hi).1, hi⟩
theorem AS4 {l : List Str} (hs : l.Pairwise fun a b => Op.bytesLess b a = false) {i j : Nat} {x y : Str} (hij : i < j) (hx : l[i]? = some x) (hy : l[j]? = some y) : Op.bytesLess y x = false := by
  obtain ⟨h1, e1⟩ := List.getElem?_eq_some_iff.1 hx
  obtain ⟨h2, e2⟩ := List.getElem?_eq_some_iff.1 hy
  have := List.pairwise_iff_getElem.1 hs i j h1 h2 hij
  rw [e1, e2] at this; exact this
theorem Ac6 {l : List Str} (hs : l.Pairwise fun a b => Op.bytesLess b a = false) : ∀ {n : Nat}, n ≤ l.length → SrtS (cmpN l n)
  | 0, _ => List.Pairwise.nil
  | n + 1, hn => by
    have ih := Ac6 hs (n := n) (by omega)
    show SrtS (if n ≠ 0 ∧ l[n]? = l[n - 1]? then cmpN l n else cmpN l n ++ (l[n]?).toList)
    split
    · exact ih
    · rename_i h
      obtain ⟨x, hx⟩ := get_some (show n < l.length by omega)
      rw [hx]
      refine List.pairwise_append.2 ⟨ih, List.pairwise_singleton _ _, fun z hz w hw => ?_⟩
      simp at hw; subst hw
      obtain ⟨i, hi, hzi⟩ := AB0.1 hz
      have h1 := AS4 hs hi hzi hx
      rcases AA9 z w with e | e | e
      · exact e
      · exfalso
        subst e
        apply h
        refine ⟨by omega, ?_⟩
        by_cases f : i = n - 1
        · rw [hx, ← f, hzi]
        · obtain ⟨v, hv⟩ := get_some (show n - 1 < l.length by omega)
          have h3 := AS4 hs (show n - 1 < n by omega) hv hx
          have h4 := AS4 hs (show i < n - 1 by omega) hzi hv
          rw [hx, hv]
          rcases AA9 z v with g | g | g
          · rw [g] at h3; cases h3
          · rw [g]
          · rw [g] at h4; cases h4
      · rw [h1] at e; cases e
def keysI (l : List Str) : List Str := cmpL (sortS l)
theorem Ac7 (l : List Str) : SrtS (keysI l) := Ac6 (Aw8 l) (Nat.le_refl _)
theorem Ac8 (l : List Str) (z : Str) : z ∈ keysI l ↔ z ∈ l := by unfold keysI; rw [BB1, BB0]
theorem BB2 (l : List Str) : (keysI l).length ≤ l.length := by
  have := Ak3 (sortS l) (sortS l).length
  unfold keysI cmpL; rw [AK1] at this ⊢; exact this
def putS : List Str → Str → List Str
  | [], s => [s]
  | y :: l, s => if Op.bytesLess s y = true then s :: y :: l else if y = s then y :: l else y :: putS l s
theorem Ak6 {s : Str} : ∀ {l : List Str}, SrtS l → SrtS (putS l s) ∧ ∀ z, z ∈ putS l s ↔ z ∈ l ∨ z = s
  | [], _ => ⟨by unfold SrtS putS; simp, fun z => by simp [putS]⟩
  | y :: l, h => by
    obtain ⟨h1, h2⟩ := List.pairwise_cons.1 h
    unfold putS
    split
    · rename_i hs
      refine ⟨List.pairwise_cons.2 ⟨fun z hz => ?_, h⟩, fun z => ?_⟩
      · rcases List.mem_cons.1 hz with rfl | hz
        · exact hs
        · exact O4 hs (h1 z hz)
      · rw [List.mem_cons, or_comm]
    · rename_i hs
      split
      · rename_i e
        subst e
        refine ⟨h, fun z => ⟨.inl, ?_⟩⟩
        rintro (hz | rfl)
        · exact hz
        · exact List.mem_cons_self
      · rename_i e
        obtain ⟨i1, i2⟩ := Ak6 (s := s) h2
        have hys : Op.bytesLess y s = true := by
          rcases AA9 y s with g | g | g
          · exact g
          · exact absurd g e
          · exact absurd g hs
        refine ⟨List.pairwise_cons.2 ⟨fun z hz => ?_, i1⟩, fun z => ?_⟩
        · rcases (i2 z).1 hz with hz | rfl
          · exact h1 z hz
          · exact hys
        · rw [List.mem_cons, i2, List.mem_cons, or_assoc]
theorem Ak7 (s : Str) : ∀ l : List Str, (putS l s).length ≤ l.length + 1
  | [] => Nat.le_refl _
  | y :: l => by
    have := Ak7 s l
    unfold putS
    split
    · exact Nat.le_refl _
    · split
      · exact Nat.le_succ _
      · rw [J7, J7]; omega
def putAllS (l : List Str) (o : List Str) : List Str := l.foldl putS o
theorem p4 : ∀ {l o : List Str}, SrtS o → SrtS (putAllS l o) ∧ ∀ z, z ∈ putAllS l o ↔ z ∈ o ∨ z ∈ l
  | [], o, h => ⟨h, fun z => by simp [putAllS]⟩
  | s :: l, o, h => by
    obtain ⟨h1, h2⟩ := Ak6 (s := s) h
    obtain ⟨i1, i2⟩ := p4 (l := l) h1
    refine ⟨i1, fun z => ?_⟩
    show z ∈ putAllS l (putS o s) ↔ _
    rw [i2, h2, List.mem_cons, or_assoc]
theorem BB3 (l : List Str) : keysI l = putAllS l [] := by
  obtain ⟨h1, h2⟩ := p4 (l := l) (o := []) List.Pairwise.nil
  exact Ak5 (Ac7 l) h1 fun z => by rw [Ac8, h2]; simp
theorem Ac9 {s : Str} : ∀ {l : List Str} {k : Nat}, SrtS l → k ≤ l.length → (∀ i y, k ≤ i → l[i]? = some y → Op.bytesLess s y = true) → (∀ y, 0 < k → l[k - 1]? = some y → Op.bytesLess s y = false ∧ y ≠ s) → putS l s = l.take k ++ s :: l.drop k
  | [], k, _, hk, _, _ => by have : k = 0 := by simpa using hk
                             subst this; rfl
  | y :: l, 0, _, _, h, _ => by
    unfold putS
    rw [if_pos (h 0 y (Nat.le_refl _) rfl)]; rfl
  | y :: l, k + 1, hs, hk, h, g => by
    obtain ⟨h1, h2⟩ := List.pairwise_cons.1 hs
    have hy : Op.bytesLess s y = false ∧ y ≠ s := by
      cases k with
      | zero => exact g y (by omega) rfl
      | succ k =>
        obtain ⟨z, hz⟩ := get_some (show k < l.length by simp at hk; omega)
        have hgz := g z (by omega) (by simpa using hz)
        have hyz := h1 z (G6 hz)
        refine ⟨?_, fun e => ?_⟩
        · cases e : Op.bytesLess s y with
          | false => rfl
          | true => have := O4 e hyz; rw [hgz.1] at this; cases this
        · subst e; rw [hyz] at hgz; cases hgz.1
    unfold putS
    rw [if_neg (by rw [hy.1]; decide), if_neg hy.2, Ac9 h2 (by simpa using hk) (fun i z hi hz => h (i + 1) z (by omega) (by simpa using hz)) (fun z hz hz2 => g z (by omega) (by
      cases k with
      | zero => omega
      | succ k => simpa using hz2))]
    rfl
theorem AV4 {s : Str} : ∀ {l : List Str} {k : Nat}, SrtS l → l[k]? = some s → putS l s = l
  | y :: l, 0, hs, h => by
    simp at h; subst h
    unfold putS
    rw [if_neg (by rw [J8]; decide), if_pos rfl]
  | y :: l, k + 1, hs, h => by
    obtain ⟨h1, h2⟩ := List.pairwise_cons.1 hs
    have h3 : l[k]? = some s := by simpa using h
    have hy := h1 s (G6 h3)
    unfold putS
    rw [if_neg (fun e => by have := O4 e hy; rw [J8] at this; cases this), if_neg (fun e => by rw [e, J8] at hy; cases hy), AV4 h2 h3]
  | [], k, hs, h => by simp at h
theorem AK2 (l o : List Str) (s : Str) : putAllS (l ++ [s]) o = putS (putAllS l o) s := by
  unfold putAllS; rw [List.foldl_append]; rfl
theorem AC1 : ∀ (l o : List Str), (putAllS l o).length ≤ o.length + l.length
  | [], o => Nat.le_refl _
  | s :: l, o => by
    have h1 := AC1 l (putS o s)
    have h2 := Ak7 s o
    show (putAllS l (putS o s)).length ≤ _
    rw [J7]; omega
end Go.M

namespace Go.M
open Go.AV
def isTrue (t : Int) : Bool := within t 0 100000
def verGood (v : TVer) : Bool := isTime v.Time && isStored v.Val v.Gone
def verLess (a b : TVer) : Bool := decide (a.Time < b.Time)
def isCell (c : TCell) : Bool := (c.Vers.all verGood && adj verLess c.Vers) && within c.Vers.length 1 16
def cKeys (l : List TCell) : List Str := l.map TCell.Key
def goodCells (l : List TCell) : Bool := l.all isCell && (decide ((l.length : Int) ≤ 24) && areRising (cKeys l))
def verGoodS (k : Str) (v : TVer) : Bool := within v.Time 1 100000 && l3Write k v.Val v.Gone
def l3Cell (c : TCell) : Bool := (c.Vers.all (verGoodS c.Key) && adj verLess c.Vers) && (l3Key c.Key && within c.Vers.length 1 16)
def cLess (a b : TCell) : Bool := Op.bytesLess a.Key b.Key
def l3Good (l : List TCell) : Bool := (l.all l3Cell && adj cLess l) && decide ((l.length : Int) ≤ 24)
theorem AZ3 (c : TCell) : (isCell c && goodKey c.Key) = l3Cell c := by
  unfold isCell l3Cell
  rw [l0, Bool.eq_iff_iff]
  simp only [Bool.and_eq_true, List.all_eq_true]
  have key : ∀ v : TVer, l3Key c.Key = true → (verGood v = true ↔ verGoodS c.Key v = true) := fun v hk => by
    unfold verGood verGoodS isTime l3Write
    rw [AB8, hk, Bool.true_and]
  constructor
  · rintro ⟨⟨⟨h1, h2⟩, h3⟩, h4⟩
    exact ⟨⟨fun v hv => (key v h4).1 (h1 v hv), h2⟩, h4, h3⟩
  · rintro ⟨⟨h1, h2⟩, h4, h3⟩
    exact ⟨⟨⟨fun v hv => (key v h4).2 (h1 v hv), h2⟩, h3⟩, h4⟩
theorem T8 (l : List TCell) : goodCells l = l3Good l := by
  unfold goodCells l3Good areRising cKeys
  rw [AO4, Bool.eq_iff_iff]
  simp only [Bool.and_eq_true, List.all_eq_true, List.mem_map, forall_exists_index, and_imp, forall_apply_eq_imp_iff₂]
  constructor
  · rintro ⟨h1, h2, h3, h4⟩
    exact ⟨⟨fun c hc => by rw [← AZ3, h1 c hc, h3 c hc]; rfl, h4⟩, h2⟩
  · rintro ⟨⟨h1, h4⟩, h2⟩
    have h5 : ∀ c ∈ l, isCell c = true ∧ goodKey c.Key = true := fun c hc => by
      have := h1 c hc
      rw [← AZ3] at this
      simpa using this
    exact ⟨fun c hc => (h5 c hc).1, h2, fun c hc => (h5 c hc).2, h4⟩
theorem P4 {l : List TCell} (h : goodCells l = true) : l.length ≤ 24 ∧ adj cLess l = true ∧ ∀ c ∈ l, goodKey c.Key = true ∧ 1 ≤ c.Vers.length ∧ c.Vers.length ≤ 16 ∧ adj verLess c.Vers = true ∧ ∀ v ∈ c.Vers, verGood v = true := by
  have h0 := h
  rw [T8] at h
  unfold l3Good at h
  simp only [Bool.and_eq_true, List.all_eq_true, decide_eq_true_eq] at h
  refine ⟨by omega, h.1.2, fun c hc => ?_⟩
  have hcell := h.1.1 c hc
  rw [← AZ3] at hcell
  simp only [Bool.and_eq_true] at hcell
  obtain ⟨h1, h2⟩ := hcell
  unfold isCell at h1
  simp only [Bool.and_eq_true, List.all_eq_true] at h1
  have h3 := h1.2
  unfold within at h3
  simp at h3
  exact ⟨h2, by omega, by omega, h1.1.2, h1.1.1⟩
def cCmp (k : Str) (c : TCell) : Int := cmpStr c.Key k
def cPos (l : List TCell) (k : Str) : Nat := bs (cCmp k) l 0 l.length
def cHas (l : List TCell) (k : Str) : Bool := bsAt (cCmp k) l (cPos l k)
theorem W1 (a b c : TCell) (h : cLess a b = true) (k : cLess b c = true) : cLess a c = true := O4 h k
theorem BB4 {l : List TCell} (h : adj cLess l = true) (k : Str) : (∀ i x, i < cPos l k → l[i]? = some x → Op.bytesLess x.Key k = true) ∧ (∀ x, l[cPos l k]? = some x → Op.bytesLess x.Key k = false) := by
  have := AZ2 (cCmp k) l (fun i j x y hij hx hy hf => by
    unfold cCmp at *
    rw [d8] at *
    exact O4 (d9 W1 h hij hx hy) hf) l.length 0 l.length rfl (Nat.zero_le _) (Nat.le_refl _) (fun k x hk => by omega) (fun x hx => by rw [List.getElem?_eq_none (Nat.le_refl _)] at hx; cases hx)
  refine ⟨fun i x hi hx => (d8 _ _).1 (this.1 i x hi hx), fun x hx => ?_⟩
  have h2 := this.2 x hx
  unfold cCmp at h2
  rw [d8] at h2
  simpa using h2
theorem AG1 {l : List TCell} {k : Str} : cHas l k = true ↔ ∃ x, l[cPos l k]? = some x ∧ x.Key = k := by
  unfold cHas bsAt
  cases h : l[cPos l k]? with
  | none => simp
  | some x => simp [cCmp, AC0]
def findC (l : List TCell) (k : Str) : Option TCell := l.find? fun c => c.Key == k
theorem BB5 {l : List TCell} (ha : adj cLess l = true) {i j : Nat} {a b : TCell} (hi : l[i]? = some a) (hj : l[j]? = some b) (hk : a.Key = b.Key) : i = j := by
  rcases Nat.lt_trichotomy i j with hlt | heq | hgt
  · have h9 := d9 W1 ha hlt hi hj
    unfold cLess at h9; rw [hk, J8] at h9; cases h9
  · exact heq
  · have h9 := d9 W1 ha hgt hj hi
    unfold cLess at h9; rw [hk, J8] at h9; cases h9
theorem Ak8 {l : List TCell} (ha : adj cLess l = true) {i : Nat} {c : TCell} (hc : l[i]? = some c) : findC l c.Key = some c := by
  unfold findC
  cases hf : l.find? (fun x => x.Key == c.Key) with
  | none => have := List.find?_eq_none.1 hf c (G6 hc); simp at this
  | some d =>
    have h1 := List.find?_some hf
    obtain ⟨j, hj⟩ := List.getElem?_of_mem (List.mem_of_find?_eq_some hf)
    have := BB5 ha hj hc (by simpa using h1)
    subst this
    rw [hc] at hj; exact hj.symm
theorem AS5 {l : List TCell} (h : adj cLess l = true) (k : Str) : findC l k = if cHas l k = true then l[cPos l k]? else none := by
  split
  · rename_i hh
    obtain ⟨x, hx, hk⟩ := AG1.1 hh
    rw [hx, ← hk]; exact Ak8 h hx
  · rename_i hh
    unfold findC
    rw [List.find?_eq_none]
    intro c hc hk
    simp only [beq_iff_eq] at hk
    obtain ⟨i, hi⟩ := List.getElem?_of_mem hc
    obtain ⟨h1, h2⟩ := BB4 h k
    rcases Nat.lt_trichotomy i (cPos l k) with hlt | heq | hgt
    · have := h1 i c hlt hi
      rw [hk, J8] at this; cases this
    · subst heq; exact hh (AG1.2 ⟨c, hi, hk⟩)
    · obtain ⟨y, hy⟩ := Go.AV.get_some (show cPos l k < l.length by have := (List.getElem?_eq_some_iff.1 hi).1; omega)
      have h3 := h2 y hy
      have h4 := d9 W1 h hgt hy hi
      unfold cLess at h4
      rw [hk, h3] at h4; cases h4
def atC (l : List TCell) (k : Str) : Int := match l.findIdx? (fun c => c.Key == k) with
  | some i => (i : Int)
  | none => -1
theorem Ak9 {l : List TCell} {k : Str} {i : Nat} {x : TCell} (hx : l[i]? = some x) (hk : x.Key = k) (h : ∀ j y, j < i → l[j]? = some y → y.Key ≠ k) : atC l k = (i : Int) := by
  have hl := (List.getElem?_eq_some_iff.1 hx)
  have : l.findIdx? (fun c => c.Key == k) = some i := by
    rw [List.findIdx?_eq_some_iff_getElem]
    refine ⟨hl.1, by rw [hl.2]; simp [hk], fun j hj => ?_⟩
    have hl1 := hl.1
    simpa using h j _ hj (List.getElem?_eq_getElem (show j < l.length by omega))
  unfold atC; rw [this]
theorem Al0 {l : List TCell} {k : Str} (h : ∀ (j : Nat) (y : TCell), l[j]? = some y → y.Key ≠ k) : atC l k = -1 := by
  have : l.findIdx? (fun c => c.Key == k) = none := by
    rw [List.findIdx?_eq_none_iff]
    intro x hx
    obtain ⟨j, hj⟩ := List.getElem?_of_mem hx
    simpa using h j x hj
  unfold atC; rw [this]
theorem Au4 {l : List TCell} {k : Str} (h : atC l k < 0) : findC l k = none := by
  unfold atC at h
  cases hf : l.findIdx? (fun c => c.Key == k) with
  | some i => rw [hf] at h; simp at h; omega
  | none =>
    rw [List.findIdx?_eq_none_iff] at hf
    unfold findC
    rw [List.find?_eq_none]
    intro c hc; simp [hf c hc]
theorem Au5 {l : List TCell} {k : Str} (h : ¬ atC l k < 0) : ∃ (p : Nat) (c : TCell), atC l k = (p : Int) ∧ l[p]? = some c ∧ findC l k = some c := by
  cases hf : l.findIdx? (fun c => c.Key == k) with
  | none => exfalso; unfold atC at h; rw [hf] at h; exact h (by decide)
  | some i =>
    have he : atC l k = (i : Int) := by unfold atC; rw [hf]
    rw [List.findIdx?_eq_some_iff_getElem] at hf
    obtain ⟨h1, h2, h3⟩ := hf
    refine ⟨i, l[i], he, List.getElem?_eq_getElem h1, ?_⟩
    unfold findC
    rw [List.find?_eq_some_iff_getElem]
    exact ⟨h2, i, h1, rfl, fun j hj => by simpa using h3 j hj⟩
def lastV (c : TCell) : Int := match c.Vers.getLast? with
  | some v => v.Time
  | none => 0
def lastTime (l : List TCell) (k : Str) : Int := match findC l k with
  | some c => lastV c
  | none => 0
def cellVal (c : TCell) (t : Int) : Str × Bool := match c.Vers.reverse.find? (fun v => decide (v.Time ≤ t)) with
  | some v => (v.Val, !v.Gone)
  | none => ([], false)
def cellsAt (l : List TCell) (t : Int) : List TWrite := l.filterMap fun c => if (cellVal c t).2 = true then some ⟨c.Key, (cellVal c t).1, false⟩ else none
def insC : List TCell → Str → TVer → List TCell
  | [], k, v => [⟨k, [v]⟩]
  | c :: l, k, v => if Op.bytesLess c.Key k = true then c :: insC l k v else if c.Key = k then ⟨k, c.Vers ++ [v]⟩ :: l else ⟨k, [v]⟩ :: c :: l
theorem AZ4 {k : Str} {v : TVer} : ∀ {l : List TCell} {p : Nat}, p ≤ l.length → (∀ i x, i < p → l[i]? = some x → Op.bytesLess x.Key k = true) → (∀ x, l[p]? = some x → Op.bytesLess x.Key k = false) →
    (∀ x, l[p]? = some x → x.Key = k → insC l k v = l.set p ⟨k, x.Vers ++ [v]⟩) ∧ ((∀ x, l[p]? = some x → x.Key ≠ k) → insC l k v = l.take p ++ ⟨k, [v]⟩ :: l.drop p)
  | [], p, hp, _, _ => by simp at hp; subst hp; exact ⟨fun x hx => by simp at hx, fun _ => rfl⟩
  | c :: l, 0, _, _, h2 => by
    have h := h2 c rfl
    unfold insC
    rw [h, if_neg (by decide)]
    refine ⟨fun x hx hk => ?_, fun hn => ?_⟩
    · simp at hx; subst hx; rw [if_pos hk]; rfl
    · rw [if_neg (hn c rfl)]; rfl
  | c :: l, p + 1, hp, h1, h2 => by
    have h := h1 0 c (by omega) rfl
    obtain ⟨i1, i2⟩ := AZ4 (k := k) (v := v) (l := l) (p := p) (by simpa using hp) (fun i y hi hy => h1 (i + 1) y (by omega) (by simpa using hy)) (fun y hy => h2 y (by simpa using hy))
    unfold insC
    rw [if_pos h]
    refine ⟨fun x hx hk => ?_, fun hn => ?_⟩
    · rw [i1 x (by simpa using hx) hk]; rfl
    · rw [i2 fun x hx => hn x (by simpa using hx)]; rfl
def putC1 (l : List TCell) (x : TWrite) (t : Int) : List TCell := insC l x.Key ⟨t, x.Val, x.Gone⟩
def putAll (l : List TCell) : List TWrite → Int → Option (List TCell)
  | [], _ => some l
  | x :: w, t => if decide (t ≤ lastTime l x.Key) = true then none else putAll (putC1 l x t) w t
def putCells (l : List TCell) (w : List TWrite) (t : Int) : List TCell × Bool := match putAll l w t with
  | none => ([], false)
  | some out => if (!goodCells out) = true then ([], false) else (out, true)
def CellsOk (l : List TCell) : Prop := adj cLess l = true ∧ ∀ c ∈ l, 1 ≤ c.Vers.length
theorem T9 {l : List TCell} (h : goodCells l = true) : CellsOk l := ⟨(P4 h).2.1, fun c hc => ((P4 h).2.2 c hc).2.1⟩
def putP (l : List TCell) (w : List TWrite) (t : Int) : List TCell × Bool := match putAll l w t with
  | none => ([], false)
  | some out => (out, l3Good out)
def TCell.ocs (c : TCell) (x : Value) : List AV := [AV.str c.Key, AV.is x]
theorem BB6 (d : TCell) : ∀ (l : List TCell) (k : Str) (v : TVer), ∃ c r, insC (d :: l) k v = c :: r ∧ (c.Key = d.Key ∨ c.Key = k) := fun l k v => by
  unfold insC
  split
  · exact ⟨_, _, rfl, Or.inl rfl⟩
  · split
    · exact ⟨_, _, rfl, Or.inr rfl⟩
    · exact ⟨_, _, rfl, Or.inr rfl⟩
theorem j6 {α : Type} {p : α → α → Bool} {x y : α} {l : List α} : adj p (x :: y :: l) = (p x y && adj p (y :: l)) := rfl
theorem AS6 (k : Str) (v : TVer) : ∀ {l : List TCell}, adj cLess l = true → adj cLess (insC l k v) = true
  | [], _ => rfl
  | [c], _ => by
    unfold insC
    by_cases h1 : Op.bytesLess c.Key k = true
    · rw [if_pos h1]; unfold insC; simpa [adj, cLess] using h1
    · rw [if_neg h1]
      by_cases h2 : c.Key = k
      · rw [if_pos h2]; rfl
      · rw [if_neg h2]
        have := bytesLess_tri k c.Key
        simp [adj, cLess]
        simp_all
  | c :: d :: l, h => by
    rw [j6, Bool.and_eq_true] at h
    have ih := AS6 k v (l := d :: l) h.2
    unfold insC
    by_cases h1 : Op.bytesLess c.Key k = true
    · rw [if_pos h1]
      obtain ⟨e, r, he, hk⟩ := BB6 d l k v
      rw [he] at ih ⊢
      rw [j6, ih, Bool.and_true]
      have h3 := h.1
      unfold cLess at *
      rcases hk with hk | hk
      · rw [hk]; exact h3
      · rw [hk]; exact h1
    · rw [if_neg h1]
      by_cases h2 : c.Key = k
      · rw [if_pos h2, j6, h.2, Bool.and_true]
        have h3 := h.1
        unfold cLess at *
        rw [← h2]; exact h3
      · rw [if_neg h2, j6, j6, h.1, h.2, Bool.and_true, Bool.and_true]
        have := bytesLess_tri k c.Key
        unfold cLess
        simp_all
theorem Ad0 (k : Str) (v : TVer) : ∀ {l : List TCell}, (∀ c ∈ l, 1 ≤ c.Vers.length) → ∀ c ∈ insC l k v, 1 ≤ c.Vers.length
  | [], _, c, hc => by unfold insC at hc; simp at hc; subst hc; simp
  | d :: l, h, c, hc => by
    have hd := h d List.mem_cons_self
    have hl := fun c hc => h c (List.mem_cons_of_mem _ hc)
    unfold insC at hc
    split at hc
    · rcases List.mem_cons.1 hc with e | e
      · subst e; exact hd
      · exact Ad0 k v hl c e
    · split at hc
      · rcases List.mem_cons.1 hc with e | e
        · subst e; simp
        · exact hl c e
      · rcases List.mem_cons.1 hc with e | e
        · subst e; simp
        · exact h c e
theorem f7 {l : List TCell} (h : CellsOk l) (k : Str) (v : TVer) : CellsOk (insC l k v) := ⟨AS6 k v h.1, Ad0 k v h.2⟩
theorem Q1 {α : Type} {f : α → Nat} {x : α} {l : List α} : sizeL f (x :: l) = 1 + f x + sizeL f l := by unfold sizeL; simp; omega
theorem l4 {α : Type} {f : α → Nat} {l r : List α} : sizeL f (l ++ r) = sizeL f l + sizeL f r := by unfold sizeL; simp; omega
theorem Ad1 (k : Str) (v : TVer) : ∀ {l : List TCell}, sizeL TCell.size (insC l k v) ≤ sizeL TCell.size l + (2 + k.length + v.Val.length)
  | [] => by unfold insC; simp only [Q1, TCell.size, TVer.size]; unfold sizeL; simp; omega
  | d :: l => by
    have ih := Ad1 k v (l := l)
    unfold insC
    split
    · simp only [Q1]; omega
    · split
      · rename_i h; subst h
        simp only [Q1, TCell.size, l4, TVer.size]; unfold sizeL; simp; omega
      · simp only [Q1, TCell.size, TVer.size]; unfold sizeL; simp; omega
theorem l5 (l : List TCell) (x : TWrite) (t : Int) : sizeL TCell.size (putC1 l x t) ≤ sizeL TCell.size l + (2 + x.size) := by
  unfold putC1 TWrite.size
  have := Ad1 x.Key ⟨t, x.Val, x.Gone⟩ (l := l)
  simp only at this; omega
theorem Ag2 {l : List TCell} {k : Str} (h : ∀ c ∈ l, c.Key ≠ k) : lastTime l k = 0 := by
  have : findC l k = none := by
    unfold findC; rw [List.find?_eq_none]; intro c hc; simpa using h c hc
  unfold lastTime; rw [this]
theorem scan_has {l : List TCell} {k : Str} {q : Nat} {c : TCell} (ha : adj cLess l = true) (hc : l[q]? = some c) (hk : c.Key = k) (v : TVer) : insC l k v = l.set q ⟨k, c.Vers ++ [v]⟩ := by
  have hq := (List.getElem?_eq_some_iff.1 hc).1
  refine (AZ4 (k := k) (v := v) (l := l) (p := q) (by omega) (fun i x hi hx => ?_) (fun x hx => ?_)).1 c hc hk
  · have := d9 W1 ha hi hx hc
    unfold cLess at this; rw [hk] at this; exact this
  · rw [hc] at hx; injection hx with hx; subst hx; rw [hk]; exact J8 _
theorem scan_new {l : List TCell} {k : Str} {q : Nat} (ha : adj cLess l = true) (hq : q ≤ l.length) (h1 : ∀ j x, q ≤ j → l[j]? = some x → Op.bytesLess k x.Key = true) (h2 : ∀ x, 0 < q → l[q - 1]? = some x → Op.bytesLess x.Key k = true) (v : TVer) : (insC l k v = l.take q ++ ⟨k, [v]⟩ :: l.drop q) ∧ lastTime l k = 0 := by
  have hlo : ∀ i x, i < q → l[i]? = some x → Op.bytesLess x.Key k = true := fun i x hi hx => by
    obtain ⟨y, hy⟩ := Go.AV.get_some (show q - 1 < l.length by omega)
    have h3 := h2 y (by omega) hy
    rcases Nat.lt_or_ge i (q - 1) with hlt | hge
    · have := d9 W1 ha hlt hx hy
      exact O4 this h3
    · have : i = q - 1 := by omega
      subst this; rw [hx] at hy; injection hy with hy; subst hy; exact h3
  have hhi : ∀ x, l[q]? = some x → Op.bytesLess x.Key k = false := fun x hx => by
    have := h1 q x (Nat.le_refl _) hx
    have h3 := bytesLess_tri x.Key k
    rw [this] at h3; simpa using h3
  refine ⟨(AZ4 (k := k) (v := v) hq hlo hhi).2 fun x hx hk => ?_, Ag2 fun c hc hk => ?_⟩
  · have := h1 q x (Nat.le_refl _) hx
    rw [hk, J8] at this; cases this
  · obtain ⟨i, hi⟩ := List.getElem?_of_mem hc
    rcases Nat.lt_or_ge i q with hlt | hge
    · have := hlo i c hlt hi
      rw [hk, J8] at this; cases this
    · have := h1 i c hge hi
      rw [hk, J8] at this; cases this
def zV : TVer := ⟨0, [], false⟩
def verAt (l : List TVer) (t : Int) : Option TVer := l.reverse.find? fun v => decide (v.Time ≤ t)
theorem AI3 (c : TCell) (t : Int) : cellVal c t = (((verAt c.Vers t).getD zV).Val, (verAt c.Vers t).isSome && !((verAt c.Vers t).getD zV).Gone) := by
  unfold cellVal verAt
  cases c.Vers.reverse.find? (fun v => decide (v.Time ≤ t)) <;> rfl
end Go.M

namespace Go.M
open Go.AV
def m3 (k : Int) : Bool := (k.tmod 3) == 0
def TRec.ocs (c : TRec) (x : Value × Value) : List AV := [AV.int c.Kind, AV.int c.Txn, AV.int c.Time, AV.int c.Lead, AV.is x.1, AV.is x.2, AV.bool c.Yes]
def TPlaces.ocs (c : TPlaces) (x : Value × Value) : List AV := [AV.int c.Ver, AV.is x.1, AV.is x.2]
def TMove.ocs (c : TMove) (x : Value × Value) : List AV := [AV.str c.Low, AV.str c.High, AV.int c.Phase, AV.is x.1, AV.is x.2, AV.str c.Last, AV.bool c.Over]
end Go.M

namespace Go.AV
section
variable {P : Program} {G : Nat → Prop} {n : Nat} {own : List Own}
theorem w6 {t : List Own} {env : List (Nat × AV)} (k : Nat) (h : (own.drop k).Perm t) : Le G n ⟨own, env⟩ ⟨own.take k ++ t, env⟩ :=
  le_perm (by
    have := List.Perm.append_left (own.take k) h
    rw [List.take_append_drop] at this
    exact this)
theorem y6 {t : List Own} : t.Perm (t ++ []) := by rw [List.append_nil]
theorem perm_lin {t : List Own} : (t ++ []).Perm t := by rw [List.append_nil]
theorem AV5 {sel rest : List Own} {is : List Nat} (h : pick own is = (sel, rest)) : own.Perm (sel ++ rest) := by
  induction is generalizing own sel rest with
  | nil => unfold pick at h; injection h with h1 h2; subst h1; subst h2; exact List.Perm.refl _
  | cons i is ih =>
    unfold pick at h
    cases hi : own[i]? with
    | none => rw [hi] at h; injection h with h1 h2; subst h1; subst h2; exact List.Perm.refl _
    | some x =>
      rw [hi] at h
      injection h with h1 h2; subst h1; subst h2
      exact (AF5 hi).trans (List.Perm.cons x (ih rfl))
section
variable {o : Oper} {E : EnvF}
end
section
variable {α : Type} {ok : α → Prop} {O : α → List Own} {V : α → AV} {o : Oper}
theorem BB7 {ops : Array Oper} {rs : List Oper} {env : List (Nat × AV)} {K : AState → Prop} {d : Nat} {f : FuncId} {args : Array Operand} {tys : Array TypeId} {ps : List Operand} {xs : List AV} {sel rest : List Own} {own' : α → List Own} (hg : o.guard = none) (ho : o.op = .call { callee := .value (.func f), args := args, argTypes := tys }) (hd : o.dst = some d) (hn : Nat.blt d n = true)
    (hc : ∀ (vs : Array Value) (w : World), (callFunc f vs).run P w = .ok (.enter f vs) w) (hps : args.toList = ps) (hp : own.Perm (sel ++ rest)) (hs : GSpec P f xs sel ok O V) (he : EvL (getv · env) ps xs) (hq : ∀ a, (O a ++ rest).Perm (own' a))
    (k : ∀ a, ok a → ASeq P G n ops rs ⟨own' a, (d, V a) :: env⟩ K) : ASeq P G n ops (o :: rs) ⟨own, env⟩ K :=
  V4 hg fun w0 R0 R a w ⟨h1, h2, h3, h4⟩ => by
    have hcore := W0 h1 hp
    have hden := m8 (o := o) (fun t _ y hy => h2 t y hy) he fun p hp => by simp [ho, Op.operands, Call.operands]; right; rw [← hps] at hp; exact Array.mem_toList_iff.1 hp
    have hrun : (execOp a.eval o).run P w = .ok (.enter f (ps.map a.eval).toArray) w := by
      have hargs : args.map a.eval = (ps.map a.eval).toArray := by rw [← hps]; cases args; simp
      simp only [execOp, ho, resolve, hargs, show a.eval (.func f) = .func (.func f) #[] #[] from rfl]
      simp [Deferred.ofValue, invoke, hc]
    unfold Oper.wp
    rw [hrun, Oper.upon_enter]
    refine (hs R w _ hcore.rle hden (fun q hq => hcore.owned q (List.mem_append_left _ hq)) (S6 hcore).sep).mono fun e w' ⟨x, v, R', e0, e1, e2, e3⟩ => ?_
    subst e1
    have hR := Z8 hcore.rle e3.rold
    refine ⟨⟨own' x, (d, V x) :: env⟩, R', k x e0, hR, W0 (u4 hcore e3) (hq x), ?_, by rw [Q9]; exact h3, by rw [O7]; exact h4⟩
    rw [hd]
    exact Y0 h2 hR (by rw [h3]; exact Nat.blt_eq.mp hn) e2
theorem w7 {ops : Array Oper} {E : EnvF} {rest : List Own} (m : Nat) (h : OpE P G n own ops o E ok (fun a => rest ++ O a) V) : OpE P G n own ops o E ok (fun a => rest.take m ++ (O a ++ rest.drop m)) V := fun w0 R0 R a w h1 h2 h3 =>
  Oper.wp_mono2 (fun a' w' ⟨x, v, R', e0, e1, e2, e3, e4⟩ => ⟨x, v, R', e0, e1, W0 e2 (by
    show (rest ++ O x).Perm (rest.take m ++ (O x ++ rest.drop m))
    conv => lhs; rw [← List.take_append_drop m rest]
    rw [List.append_assoc]
    exact List.Perm.append_left _ List.perm_append_comm), e3, e4⟩) (fun _ _ _ h => h) (h w0 R0 R a w h1 h2 h3)
theorem n3 {ops : Array Oper} {E : EnvF} {W' : α → List Own} {g : α → Value} {e : TypeId} {sz : Nat} {es : List (List AV)} (i : Nat) (hg : ∀ a, (W' a)[i]? = some (.arr (g a) e sz es)) (h : OpE P G n own ops o E ok W' V) : OpE P G n own ops o E (fun a => ok a ∧ (g a).oneCell' = true) W' V := fun w0 R0 R a w h1 h2 h3 =>
  Oper.wp_mono2 (fun a' w' ⟨x, v, R', e0, e1, e2, e3, e4⟩ => ⟨x, v, R', ⟨e0, Au0 (e2.owned _ (G6 (hg x)))⟩, e1, e2, e3, e4⟩) (fun _ _ _ h => h) (h w0 R0 R a w h1 h2 h3)
theorem AK3 {ops : Array Oper} {E : EnvF} {t : TypeId} {z : Value} (ho : o.op = .alloc t)
    (hz : ∀ w, (zeroValue t).run P w = .ok z w) (h1' : z.cells.toList.all Value.oneCell' = true) : OpE P G n own ops o E (fun _ : Nat => True) (fun b => own ++ [.box b t (z.cells.toList.map zeroA)]) (fun b => AV.ptr b 0) :=
  fun w0 R0 R a w h1 h3 h2 => by
    have hrun : (execOp a.eval o).run P w = .ok (.value (.pointer (some ⟨w.heap.size, 0, none⟩))) (w.alloc (.cells z.cells.toList.toArray t)) := by
      simp only [execOp, ho, Instr.alloc, newVar, newRow, hz, Array.toArray_toList, Sem.run_bind, Sem.run_pure, Result.andThen_ok, run_newObj, World.alloc_eq]
    unfold Oper.wp
    rw [hrun, Oper.upon_value]
    exact ⟨w.heap.size, _, R, trivial, rfl, W0 (AF0 h1 ⟨by simp, fun i v y hv hy => by
      rw [List.getElem?_map, hv] at hy
      simp at hy; subst hy
      exact ⟨i7 R v, List.all_eq_true.1 h1' v (G6 hv)⟩⟩) (List.perm_append_comm (l₁ := [_])), RSub.refl _, rfl⟩
theorem AQ0 {ops : Array Oper} {E : EnvF} {t t' : TypeId} {p q : Operand} {b : Nat} {cs ys : List AV} {x : AV} (i : Nat) (ho : o.op = .store t p q) (hd : o.dst = none)
    (hp : Ev E p (AV.ptr b 0)) (hq : Ev E q x) (hx : AsCells x ys) (hi : own[i]? = some (.box b t' cs)) (hs : ∀ w, (sizeOf t).run P w = .ok ys.length w) (hl' : Nat.beq ys.length cs.length = true) : OpE P G n own ops o E (fun _ : Unit => True) (fun _ => own.set i (.box b t' ys)) (fun _ => AV.int 0) :=
  fun w0 R0 R a w h1 h3 h2 => by
    have e1 : a.eval p = .pointer (some ⟨b, 0, none⟩) := y5 (ops := ops) hp (by simp [ho, Op.operands]) h2
    have e2 := hx R _ (y5 (ops := ops) hq (by simp [ho, Op.operands]) h2)
    have e := Nat.eq_of_beq_eq_true hl'
    obtain ⟨hR, vs, hb, hdc⟩ := h1.owned _ (G6 hi)
    have hsz : (a.eval q).cells.size = ys.length := by rw [← Array.length_toList]; exact e2.1
    have hst := p3 (P := P) (t := t) (off := 0) (u := a.eval q) hb (by rw [hsz]; exact hs w) (by rw [hsz, hdc.1]; omega) (fun u hu => by
      obtain ⟨j, hj⟩ := List.getElem?_of_mem hu
      have hjl : j < ys.length := by rw [← e2.1]; exact (List.getElem?_eq_some_iff.1 hj).1
      exact (e2.2 j u _ hj (List.getElem?_eq_getElem hjl)).2)
    have hrun : (execOp a.eval o).run P w = .ok .skip (w.setRow b (vs.take 0 ++ (a.eval q).cells.toList ++ vs.drop (0 + (a.eval q).cells.size)).toArray) := by
      simp only [execOp, ho, e1, hst, Sem.run_bind, Sem.run_pure, Result.andThen_ok]
    unfold Oper.wp
    rw [hrun, Oper.upon_skip, hd]
    refine ⟨(), .int .i64 0, R, trivial, rfl, x6 h1 hi rfl rfl ⟨hR, _, setRow_heap w b _ _ t' _ hb, ?_⟩ (c3 w b _), RSub.refl _, rfl⟩
    rw [← Array.length_toList]
    have := o9 (off := 0) hdc e2 (by omega)
    rw [AU6 e] at this
    exact this
theorem BB8 {ops : Array Oper} {rs : List Oper} {env : List (Nat × AV)} {K : AState → Prop} {d : Nat} {f : FuncId} {args : Array Operand} {tys : Array TypeId} {ps : List Operand} {xs : List AV} {s1 r1 : List Own} (is : List Nat) (m j : Nat) (B D : List Own) (NT : α → List Own) (hg : o.guard = none) (ho : o.op = .call { callee := .value (.func f), args := args, argTypes := tys }) (hd : o.dst = some d) (hn : Nat.blt d n = true)
    (hc : ∀ (vs : Array Value) (w : World), (callFunc f vs).run P w = .ok (.enter f vs) w) (hps : args.toList = ps) (hp : pick own is = (s1, r1)) (hB : (r1.drop m).Perm (B ++ D)) (hs : GSpec P f xs (s1 ++ B) ok O V) (he : EvL (getv · env) ps xs) (hN : ∀ a, ((O a).drop j ++ D).Perm (NT a))
    (k : ∀ a, ok a → ASeq P G n ops rs ⟨(O a).take j ++ (r1.take m ++ NT a), (d, V a) :: env⟩ K) : ASeq P G n ops (o :: rs) ⟨own, env⟩ K := by
  refine BB7 (sel := s1 ++ B) (rest := r1.take m ++ D) (own' := fun a => (O a).take j ++ (r1.take m ++ NT a)) hg ho hd hn hc hps ?_ hs he (fun a => ?_) k
  · refine (AV5 hp).trans ?_
    have h1 : r1.Perm (r1.take m ++ (B ++ D)) := by
      have := List.Perm.append_left (r1.take m) hB
      rwa [List.take_append_drop] at this
    refine (List.Perm.append_left s1 h1).trans ?_
    rw [List.append_assoc]
    refine List.Perm.append_left s1 ?_
    rw [← List.append_assoc, ← List.append_assoc]
    exact List.Perm.append_right D List.perm_append_comm
  · have h1 : (O a ++ (r1.take m ++ D)).Perm ((O a).take j ++ (r1.take m ++ ((O a).drop j ++ D))) := by
      conv => lhs; rw [← List.take_append_drop j (O a)]
      rw [List.append_assoc]
      refine List.Perm.append_left _ ?_
      rw [← List.append_assoc, ← List.append_assoc]
      exact List.Perm.append_right D List.perm_append_comm
    exact h1.trans (List.Perm.append_left _ (List.Perm.append_left _ (hN a)))
theorem AV6 {fn : Func} {s : AState} {sel rest : List Own} (is : List Nat) (m : Nat) (B D : List Own) (x : α) (hx : ok x) (hp : pick s.own is = (sel, rest)) (hB : (rest.drop m).Perm (B ++ D)) (ho : O x = sel ++ B) (h : ∀ w0 R0 R a w, St G n w0 R0 s R a w → ∃ v, (results fn a.tmps).run P w = .ok v w ∧ (V x).den R v) : RetOkG P G n fn s ok O V := fun w0 R0 R a w hs => by
  obtain ⟨v, h1, h2⟩ := h w0 R0 R a w hs
  refine ⟨x, v, R, hx, h1, h2, RSub.refl _, ?_⟩
  rw [ho]
  refine S6 (b := rest.take m ++ D) (W0 hs.1 ?_)
  refine (AV5 hp).trans ?_
  have h1 : rest.Perm (rest.take m ++ (B ++ D)) := by
    have := List.Perm.append_left (rest.take m) hB
    rwa [List.take_append_drop] at this
  refine (List.Perm.append_left sel h1).trans ?_
  rw [List.append_assoc]
  refine List.Perm.append_left sel ?_
  rw [← List.append_assoc, ← List.append_assoc]
  exact List.Perm.append_right D List.perm_append_comm
end
end
inductive OT where
  | nil
  | pure (i : Nat) (t : OT)
  | e1 (i : Nat) (t : OT)
  | e2 (i : Nat) (t : OT) (j : Nat) (u : OT)
def OT.deep : OT → Nat → Bool
  | .nil, 0 => true
  | .pure _ t, f + 1 => t.deep f
  | .e1 _ t, f + 1 => t.deep f
  | .e2 _ t _ u, f + 1 => t.deep f && u.deep f
  | _, _ => false
def ordT (md : Region.Mode) (ops : Array Oper) (g m : Nat) : OT → Array Bool → Bool
  | .nil, listed => Region.seqB md ops g m listed
  | .pure i r, listed => (Region.ready md ops listed).contains i && Region.free md ops listed i && Nat.blt i m && ordT md ops g m r (listed.setIfInBounds i true)
  | .e1 i r, listed => decide (Region.ready md ops listed = [i]) && Nat.blt i m && ordT md ops g m r (listed.setIfInBounds i true)
  | .e2 i r j u, listed => decide (Region.ready md ops listed = [i, j]) && Nat.blt i m && Nat.blt j m && ordT md ops g m r (listed.setIfInBounds i true) && ordT md ops g m u (listed.setIfInBounds j true)
def treeB (md : Region.Mode) (ops : Array Oper) (m : Nat) (ord : OT) : Bool :=
  decide (m < ops.size) && ord.deep m && Region.sinkB md ops m && Region.chainB md ops m && ordT md ops (ops.size - m) m ord (Array.replicate ops.size false)
section
variable {P : Program} {G : Nat → Prop} {n : Nat}
def EffS (P : Program) (G : Nat → Prop) (n : Nat) (Inv : List Own → Prop) (ops : Array Oper) (i : Nat) (env : List (Nat × AV)) (W : List Own) (K : List (Nat × AV) → List Own → Prop) : Prop :=
  ∃ o, ops[i]? = some o ∧ o.guard = none ∧ ∃ (α : Type) (ok : α → Prop) (W' : α → List Own) (V : α → AV), OpE P G n W ops o (getv · env) ok W' V ∧ (∀ a, ok a → Inv (W' a)) ∧ ∀ a, ok a → K (putv o.dst (V a) env) (W' a)
def BT (P : Program) (G : Nat → Prop) (n : Nat) (Inv : List Own → Prop) (ops : Array Oper) : OT → List (Nat × AV) → List Own → (List (Nat × AV) → List Own → Prop) → Prop
  | .nil, env, W, K => K env W
  | .pure i r, env, W, K => ∃ o, ops[i]? = some o ∧ ∃ x, (∀ W', Inv W' → OpA P G n W' ops o (getv · env) x) ∧ BT P G n Inv ops r (putv o.dst x env) W K
  | .e1 i r, env, W, K => EffS P G n Inv ops i env W fun env' W' => BT P G n Inv ops r env' W' K
  | .e2 i r j u, env, W, K => (EffS P G n Inv ops i env W fun env' W' => BT P G n Inv ops r env' W' K) ∧ EffS P G n Inv ops j env W fun env' W' => BT P G n Inv ops u env' W' K
theorem q9 {Inv : List Own → Prop} {md : Region.Mode} {ops : Array Oper} {m g : Nat} {K : List (Nat × AV) → List Own → Prop} (hs : Region.sinkB md ops m = true) (hc : Region.chainB md ops m = true) (hn : m < ops.size) :
    ∀ (l : OT) (f : Nat) (listed : Array Bool) (env : List (Nat × AV)) (W : List Own), l.deep f = true → HeadInv md ops m listed → Inv W →
    ordT md ops g m l listed = true → BT P G n Inv ops l env W K →
    wpAnyB P G n Inv md ops m (fun listed' E W => Region.seqB md ops g m listed' = true ∧ ∃ env', E = (getv · env') ∧ K env' W) f listed (getv · env) W
  | .nil, 0, listed, env, W, _, _, _, hB, h => ⟨hB, env, rfl, h⟩
  | .nil, _ + 1, _, _, _, hdp, _, _, _, _ => by cases hdp
  | .pure _ _, 0, _, _, _, hdp, _, _, _, _ => by cases hdp
  | .e1 _ _, 0, _, _, _, hdp, _, _, _, _ => by cases hdp
  | .e2 _ _ _ _, 0, _, _, _, hdp, _, _, _, _ => by cases hdp
  | .pure i l, f + 1, listed, env, W, hdp, inv, hW, hB, h => by
    simp only [ordT, Bool.and_eq_true] at hB
    obtain ⟨⟨⟨hr, hf⟩, hlt⟩, hB'⟩ := hB
    have hkn : i < m := Nat.blt_eq.mp hlt
    have hr' : i ∈ Region.ready md ops listed := by simpa using hr
    obtain ⟨o, ho, x, hx, hK⟩ := h
    refine AJ7 ho hs hc hn hkn (fun listed' E W hL => seqB_ready hL.1) f listed _ W inv hW (Region.free_spec ho hf) hr' hx ?_
    rw [← S5]
    exact q9 hs hc hn l f _ _ W hdp (inv.set hr' hkn) hW hB' hK
  | .e1 i l, f + 1, listed, env, W, hdp, inv, hW, hB, h => by
    simp only [ordT, Bool.and_eq_true, decide_eq_true_eq] at hB
    obtain ⟨⟨hr, hlt⟩, hB'⟩ := hB
    have hkn : i < m := Nat.blt_eq.mp hlt
    have hr' : i ∈ Region.ready md ops listed := by rw [hr]; simp
    obtain ⟨o, ho, hg, α, ok, W', V, h1, h2, h3⟩ := h
    refine ⟨fun h0 => (by rw [h0] at hr'; cases hr'), fun j hj => ?_⟩
    rw [hr] at hj
    have : j = i := by simpa using hj
    subst this
    refine ⟨hkn, ?_⟩
    unfold qB
    simp only [ho]
    refine .inr ⟨hg, α, ok, W', V, h1, h2, fun a ha => ?_⟩
    rw [← S5]
    exact q9 hs hc hn l f _ _ (W' a) hdp (inv.set hr' hkn) (h2 a ha) hB' (h3 a ha)
  | .e2 i l k u, f + 1, listed, env, W, hdp, inv, hW, hB, h => by
    simp only [ordT, Bool.and_eq_true, decide_eq_true_eq] at hB
    obtain ⟨⟨⟨⟨hr, hlt⟩, hlt2⟩, hB'⟩, hB2⟩ := hB
    simp only [OT.deep, Bool.and_eq_true] at hdp
    have hkn : i < m := Nat.blt_eq.mp hlt
    have hkn2 : k < m := Nat.blt_eq.mp hlt2
    have hr' : i ∈ Region.ready md ops listed := by rw [hr]; simp
    have hr2 : k ∈ Region.ready md ops listed := by rw [hr]; simp
    obtain ⟨⟨o, ho, hg, α, ok, W', V, h1, h2, h3⟩, ⟨o', ho', hg', α', ok', W'', V', h1', h2', h3'⟩⟩ := h
    refine ⟨fun h0 => (by rw [h0] at hr'; cases hr'), fun j hj => ?_⟩
    rw [hr] at hj
    simp only [List.mem_cons, List.not_mem_nil, or_false] at hj
    rcases hj with hj | hj
    · subst hj
      refine ⟨hkn, ?_⟩
      unfold qB
      simp only [ho]
      refine .inr ⟨hg, α, ok, W', V, h1, h2, fun a ha => ?_⟩
      rw [← S5]
      exact q9 hs hc hn l f _ _ (W' a) hdp.1 (inv.set hr' hkn) (h2 a ha) hB' (h3 a ha)
    · subst hj
      refine ⟨hkn2, ?_⟩
      unfold qB
      simp only [ho']
      refine .inr ⟨hg', α', ok', W'', V', h1', h2', fun a ha => ?_⟩
      rw [← S5]
      exact q9 hs hc hn u f _ _ (W'' a) hdp.2 (inv.set hr2 hkn2) (h2' a ha) hB2 (h3' a ha)
theorem a8 {id : Nat} {l : List Oper} {Q : Exit → AState → Prop} {env : List (Nat × AV)} {own : List Own} (base : List Own) (m : Nat) (ord : OT) (hm : P.follows .mixedOrders = true) (hB : treeB .any l.toArray m ord = true) (hd : dstOk n l = true) (hb : InvX base own)
  (h : BT P G n (InvX base) l.toArray ord env own (fun env' W => ASeq P G n l.toArray (l.drop m) ⟨W, env'⟩ (Q .normal))) : AWP P G n (.region id l.toArray true) Q ⟨own, env⟩ := fun w0 R0 R a w ⟨h1, h2, h3, h4⟩ => by
 simp only [treeB, Bool.and_eq_true, decide_eq_true_eq] at hB
 obtain ⟨⟨⟨⟨hn, hdp⟩, hs⟩, hc⟩, hlex⟩ := hB
 have hn' : m < l.length := by simpa using hn
 have hdl : (l.drop m).length = l.toArray.size - m := by simp
 have inv0 : HeadInv .any l.toArray m (Array.replicate l.toArray.size false) :=
  ⟨by simp, fun j oj _ hl => (by rw [getD_replicate_false] at hl; cases hl), fun t _ ht => getD_in (by simpa using ht) (getD_replicate_false _ _)⟩
 have H := q9 (g := l.toArray.size - m) hs hc hn ord m _ env own hdp inv0 hb hlex h
 refine wp_region_any hm ?_
 have := Z3 (w0 := w0) (R0 := R0) (R00 := R) (g := l.toArray.size - m) (Q' := fun e a' w' => ∃ s' R', Q e s' ∧ RSub R R' ∧ St G n w0 R0 s' R' a' w') (fun i o ho d e => j9 hd i o (by simpa using ho) d e) (fun listed E W R' a' w' g1 g2 g3 g4 g5 hL => by
  obtain ⟨hL1, env', rfl, hL2⟩ := hL
  have := wpAny_of_seq (P := P) (md := .any) (Q' := fun e a' w' => ∃ s' R', Q e s' ∧ RSub R R' ∧ St G n w0 R0 s' R' a' w') (l.drop m) m listed a' w' (fun j => by simp [List.getElem?_drop]) (by rw [hdl]; exact hL1)
   (V6 (R00 := R) (K := Q .normal) (fun s' R' a w q r1 r2 => ⟨s', R', q, r1, r2⟩) _ (⟨W, env'⟩ : AState) R' a' w' g1 ⟨g2, g3, g4, g5⟩ hL2)
  rwa [hdl] at this) _ _ _ own R a _ (RSub.refl _) (p6 h1) h2 h3 h4 H
 rw [show m + (l.toArray.size - m) = l.toArray.size by omega] at this
 exact this
section
variable {ops : Array Oper} {i j : Nat} {o : Oper} {r u : OT} {env : List (Nat × AV)} {W : List Own} {base : List Own} {K : List (Nat × AV) → List Own → Prop} {d : Nat} {x : AV}
theorem l6 {Inv : List Own → Prop} (h : K env W) : BT P G n Inv ops .nil env W K := h
theorem I9 (ho : ops[i]? = some o) (hg : o.guard = none) (hd : o.dst = some d) (h : ∀ ext, OpW P G n (base ++ ext) o (getv · env) x) (k : BT P G n (InvX base) ops r ((d, x) :: env) W K) : BT P G n (InvX base) ops (.pure i r) env W K :=
  ⟨o, ho, x, fun W' ⟨ext, e⟩ => by subst e; exact AA0 hg (h ext), by rw [hd]; exact k⟩
theorem c8 {c : Bool} (ho : ops[i]? = some o) (hd : o.dst = some d) (hg : GuardIs ops o (getv · env) c) (h : c = true → ∀ ext, OpW P G n (base ++ ext) o (getv · env) x) (k : BT P G n (InvX base) ops r ((d, AV.whn c x) :: env) W K) : BT P G n (InvX base) ops (.pure i r) env W K :=
  ⟨o, ho, _, fun W' ⟨ext, e⟩ => by subst e; exact AY1 hg fun hc => h hc ext, by rw [hd]; exact k⟩
theorem X3 {Inv : List Own → Prop} (h : EffS P G n Inv ops i env W fun env' W' => BT P G n Inv ops r env' W' K) : BT P G n Inv ops (.e1 i r) env W K := h
theorem Ai7 {Inv : List Own → Prop} (h : EffS P G n Inv ops i env W fun env' W' => BT P G n Inv ops r env' W' K) (k : EffS P G n Inv ops j env W fun env' W' => BT P G n Inv ops u env' W' K) : BT P G n Inv ops (.e2 i r j u) env W K := ⟨h, k⟩
theorem eff_s0 {Inv : List Own → Prop} {α : Type} {ok : α → Prop} {W' : α → List Own} {V : α → AV} (ho : ops[i]? = some o) (hg : o.guard = none) (hd : o.dst = none) (h : OpE P G n W ops o (getv · env) ok W' V) (hi : ∀ a, ok a → Inv (W' a)) (k : ∀ a, ok a → K env (W' a)) : EffS P G n Inv ops i env W K :=
  ⟨o, ho, hg, α, ok, W', V, h, hi, fun a ha => by rw [hd]; exact k a ha⟩
theorem U0 {Inv : List Own → Prop} {α : Type} {ok : α → Prop} {W' : α → List Own} {V : α → AV} (ho : ops[i]? = some o) (hg : o.guard = none) (hd : o.dst = some d) (h : OpE P G n W ops o (getv · env) ok W' V) (hi : ∀ a, ok a → Inv (W' a)) (k : ∀ a, ok a → K ((d, V a) :: env) (W' a)) : EffS P G n Inv ops i env W K :=
  ⟨o, ho, hg, α, ok, W', V, h, hi, fun a ha => by rw [hd]; exact k a ha⟩
end
end
section
variable {T X : Type} {cs : T → List AV} {ocs : T → X → List AV} {ow : T → X → List Own}
def nrows (ocs : T → X → List AV) (l : List T) (xs : List X) : List (List AV) := List.zipWith ocs l xs
def nin (ow : T → X → List Own) (l : List T) (xs : List X) : List Own := (List.zipWith ow l xs).flatten
theorem AK4 {l : List T} {xs : List X} (h : xs.length = l.length) : (nrows ocs l xs).length = l.length := by unfold nrows; rw [List.length_zipWith]; omega
theorem Ad2 {l : List T} {xs : List X} {i : Nat} {p : T} {x : X} (hp : l[i]? = some p) (hx : xs[i]? = some x) : (nrows ocs l xs)[i]? = some (ocs p x) := by
  unfold nrows; rw [List.getElem?_zipWith, hp, hx]
theorem Aw9 {l : List T} {xs : List X} {p : T} {x : X} (h : xs.length = l.length) : nrows ocs (l ++ [p]) (xs ++ [x]) = nrows ocs l xs ++ [ocs p x] := by
  unfold nrows; rw [List.zipWith_append h.symm]; rfl
theorem nin_snoc {l : List T} {xs : List X} {p : T} {x : X} (h : xs.length = l.length) : (ow p x ++ nin ow l xs).Perm (nin ow (l ++ [p]) (xs ++ [x])) := by
  unfold nin; rw [List.zipWith_append h.symm, List.flatten_append]
  refine List.perm_append_comm.trans ?_
  simp
theorem Ad3 {l : List T} {i : Nat} {p : T} (h : l[i]? = some p) : l.take (i + 1) = l.take i ++ [p] := by rw [List.take_add_one, h]; rfl
theorem nin_step {l : List T} {xs : List X} {p : T} {x : X} {i : Nat} (hp : l[i]? = some p) (h : xs.length = i) : (ow p x ++ nin ow (l.take i) xs).Perm (nin ow (l.take (i + 1)) (xs ++ [x])) := by
  have hi := (List.getElem?_eq_some_iff.1 hp).1
  rw [Ad3 hp]
  exact nin_snoc (by rw [h, E6]; omega)
theorem Ax0 {l : List T} {xs : List X} {p : T} {x : X} {i : Nat} (hp : l[i]? = some p) (h : xs.length = i) : nrows ocs (l.take i) xs ++ [ocs p x] = nrows ocs (l.take (i + 1)) (xs ++ [x]) := by
  have hi := (List.getElem?_eq_some_iff.1 hp).1
  rw [Ad3 hp, Aw9 (by rw [h, E6]; omega)]
theorem AO6 {p : T} {x : X} : ∀ {l : List T} {xs : List X} {i : Nat}, l[i]? = some p → xs[i]? = some x → (nin ow l xs).Perm (ow p x ++ nin ow (l.eraseIdx i) (xs.eraseIdx i))
  | [], _, _, h, _ => by simp at h
  | _ :: _, [], _, _, h => by simp at h
  | q :: l, y :: xs, 0, hp, hx => by simp at hp hx; subst hp; subst hx; exact List.Perm.refl _
  | q :: l, y :: xs, i + 1, hp, hx => by
    have ih := AO6 (l := l) (xs := xs) (i := i) (by simpa using hp) (by simpa using hx)
    unfold nin at *
    simp only [List.zipWith_cons_cons, List.flatten_cons, AU1]
    refine (List.Perm.append_left (ow q y) ih).trans ?_
    rw [← List.append_assoc, ← List.append_assoc]
    exact List.Perm.append_right _ List.perm_append_comm
theorem AC2 {p : T} {x : X} : ∀ {l : List T} {xs : List X} {i : Nat}, l[i]? = some p → xs[i]? = some x → nrows ocs l xs = nrows ocs (l.take i) (xs.take i) ++ ocs p x :: nrows ocs (l.drop (i + 1)) (xs.drop (i + 1))
  | [], _, _, h, _ => by simp at h
  | _ :: _, [], _, _, h => by simp at h
  | q :: l, y :: xs, 0, hp, hx => by simp at hp hx; subst hp; subst hx; rfl
  | q :: l, y :: xs, i + 1, hp, hx => by
    have ih := AC2 (p := p) (x := x) (l := l) (xs := xs) (i := i) (by simpa using hp) (by simpa using hx)
    unfold nrows at *
    simp only [List.zipWith_cons_cons, z8, AE6, f9]
    rw [ih]
theorem Ax1 {p : T} {x : X} {l : List T} {xs : List X} {i : Nat} (hp : l[i]? = some p) (hx : xs[i]? = some x) : (nrows ocs (l.take i) (xs.take i)).length = i := by
  have h1 := (List.getElem?_eq_some_iff.1 hp).1
  have h2 := (List.getElem?_eq_some_iff.1 hx).1
  unfold nrows; rw [List.length_zipWith, E6, E6]; omega
theorem nin_mem {p : T} {x : X} {l : List T} {xs : List X} {i : Nat} (hp : l[i]? = some p) (hx : xs[i]? = some x) : ∀ o ∈ ow p x, o ∈ nin ow l xs := fun o ho => (AO6 (ow := ow) (i := i) hp hx).mem_iff.2 (List.mem_append_left _ ho)
theorem AG2 {own : List Own} {v : Value} {t : TypeId} {sz : Nat} {l : List T} {xs : List X} (hlc : ∀ p x, (∀ o ∈ ow p x, o ∈ own) → LendC own (ocs p x) (cs p)) (hlen : xs.length = l.length) (i : Nat) (hi : own[i]? = some (.arr v t sz (nrows ocs l xs))) (hm : ∀ o ∈ nin ow l xs, o ∈ own) : LendTo own (AV.is v) (AV.list sz (l.map cs)) :=
  Q4 (G6 hi) ⟨by rw [AK4 hlen, A9], fun j a b ha hb => by
    rw [List.getElem?_map] at hb
    cases hp : l[j]? with
    | none => rw [hp] at hb; cases hb
    | some p =>
      rw [hp] at hb
      have hj := (List.getElem?_eq_some_iff.1 hp).1
      obtain ⟨x, hx⟩ : ∃ x, xs[j]? = some x := ⟨_, List.getElem?_eq_getElem (by omega)⟩
      rw [Ad2 hp hx] at ha
      injection ha with ha; injection hb with hb; subst ha; subst hb
      exact hlc p x fun o ho => hm o (nin_mem hp hx o ho)⟩
end
section
variable {T : Type}
def marksN (mk : T → Int → T) (mn : T → Int → Int) : List T → Int → List T
  | [], _ => []
  | p :: l, k => mk p k :: marksN mk mn l (mn p k)
variable {mk : T → Int → T} {mn : T → Int → Int}
theorem AG3 : ∀ (l : List T) (k : Int), (marksN mk mn l k).length = l.length
  | [], _ => rfl
  | p :: l, k => by unfold marksN; simp [AG3 l]
end
end Go.AV

namespace Go.M
open Go.AV
theorem AB1 {α : Type} {f : α → Nat} {c : Nat} : ∀ {l : List α}, (∀ x ∈ l, f x ≤ c) → sizeL f l ≤ l.length * (c + 1)
  | [], _ => by simp [sizeL]
  | x :: l, h => by
    rw [Q1]
    have h1 := h x List.mem_cons_self
    have h2 := AB1 (l := l) fun y hy => h y (List.mem_cons_of_mem _ hy)
    rw [J7, Nat.add_mul]; omega
end Go.M

namespace Go.M
open Go.AV
theorem Ag3 (a b c : TVer) (h : verLess a b = true) (k : verLess b c = true) : verLess a c = true := by
  unfold verLess at *; simp at *; omega
theorem r4 {α : Type} {p : α → α → Bool} (tr : ∀ a b c, p a b = true → p b c = true → p a c = true) : ∀ {l : List α}, adj p l = true ↔ l.Pairwise fun a b => p a b = true
  | [] => by simp [adj]
  | [x] => by simp [adj]
  | x :: y :: l => by
    constructor
    · intro h
      refine List.pairwise_cons.2 ⟨AO5 tr h, ?_⟩
      exact (r4 tr).1 (AS3 h)
    · intro h
      obtain ⟨h1, h2⟩ := List.pairwise_cons.1 h
      rw [j6, h1 y List.mem_cons_self, (r4 tr).2 h2]; rfl
end Go.M

namespace Go.M
open Go.AV
def versOf (l : List TCell) (k : Str) : List TVer := match findC l k with
  | some c => c.Vers
  | none => []
theorem T3 (c : TCell) (l : List TCell) (k : Str) : findC (c :: l) k = if c.Key = k then some c else findC l k := by
  unfold findC
  rw [List.find?_cons]
  by_cases h : c.Key = k
  · rw [if_pos h, beq_iff_eq.2 h]
  · rw [if_neg h, beq_eq_false_iff_ne.2 h]
theorem findC_gt {l : List TCell} {k : Str} (h : ∀ c ∈ l, Op.bytesLess k c.Key = true) : findC l k = none := by
  unfold findC
  rw [List.find?_eq_none]
  intro c hc he
  have := h c hc
  simp only [beq_iff_eq] at he
  rw [he, J8] at this; cases this
theorem Al1 {k : Str} {v : TVer} : ∀ {l : List TCell}, adj cLess l = true → findC (insC l k v) k = some ⟨k, versOf l k ++ [v]⟩
  | [], _ => by unfold insC; rw [T3, if_pos rfl]; rfl
  | c :: l, ha => by
    have hal := AS3 ha
    unfold insC
    by_cases h1 : Op.bytesLess c.Key k = true
    · have hne : c.Key ≠ k := fun e => by rw [e, J8] at h1; cases h1
      rw [if_pos h1, T3, if_neg hne, Al1 hal]
      unfold versOf; rw [T3, if_neg hne]
    · rw [if_neg h1]
      by_cases h2 : c.Key = k
      · rw [if_pos h2, T3, if_pos rfl]
        unfold versOf; rw [T3, if_pos h2]
      · rw [if_neg h2, T3, if_pos rfl]
        have hk : Op.bytesLess k c.Key = true := by have := bytesLess_tri k c.Key; simp_all
        have hn : findC (c :: l) k = none := findC_gt fun d hd => by
          rcases List.mem_cons.1 hd with e | e
          · subst e; exact hk
          · exact O4 hk (AO5 W1 ha d e)
        unfold versOf; rw [hn]; rfl
theorem n4 {k k' : Str} {v : TVer} (hk : k' ≠ k) : ∀ {l : List TCell}, findC (insC l k v) k' = findC l k'
  | [] => by unfold insC; rw [T3, if_neg (fun e => hk e.symm)]
  | c :: l => by
    unfold insC
    split
    · rw [T3, T3, n4 hk]
    · split
      · rename_i h2
        rw [T3, T3, if_neg (fun e => hk e.symm), if_neg (fun e => hk (e.symm.trans h2))]
      · rw [T3, if_neg (fun e => hk e.symm)]
theorem AG4 {t : Int} : ∀ {w : List TWrite} {l out : List TCell}, (w.map TWrite.Key).Nodup → adj cLess l = true → putAll l w t = some out →
    (∀ x ∈ w, findC out x.Key = some ⟨x.Key, versOf l x.Key ++ [⟨t, x.Val, x.Gone⟩]⟩) ∧ ∀ k, k ∉ w.map TWrite.Key → findC out k = findC l k
  | [], l, out, _, _, h => by simp [putAll] at h; subst h; simp
  | y :: w, l, out, hn, ha, h => by
    unfold putAll at h
    split at h
    · cases h
    · rw [List.map_cons, List.nodup_cons] at hn
      obtain ⟨i1, i2⟩ := AG4 hn.2 (AS6 y.Key ⟨t, y.Val, y.Gone⟩ ha) h
      refine ⟨fun x hx => ?_, fun k hk => ?_⟩
      · rcases List.mem_cons.1 hx with e | e
        · subst e
          rw [i2 _ hn.1]; exact Al1 ha
        · rw [i1 x e]
          have hne : x.Key ≠ y.Key := fun e2 => hn.1 (e2 ▸ List.mem_map_of_mem e)
          have : versOf (putC1 l y t) x.Key = versOf l x.Key := by
            unfold versOf putC1; rw [n4 hne]
          unfold putC1 at this
          rw [this]
      · simp only [List.map_cons, List.mem_cons, not_or] at hk
        rw [i2 k hk.2]; exact n4 hk.1
theorem Al2 {w : List TWrite} (h : goodWrites w = true) : (w.map TWrite.Key).Nodup := by
  unfold goodWrites areRising wKeys at h
  simp only [Bool.and_eq_true] at h
  have ha := h.1.2.2
  rw [List.Nodup]
  refine ((r4 (p := fun a b => Op.bytesLess a b) (fun a b c h k => O4 h k)).1 ha).imp fun {a b} hab e => ?_
  rw [e, J8] at hab; cases hab
theorem Ax2 (vs : List TVer) (v : TVer) (t : Int) : verAt (vs ++ [v]) t = if v.Time ≤ t then some v else verAt vs t := by
  unfold verAt
  rw [List.reverse_append]
  show List.find? _ (v :: vs.reverse) = _
  rw [List.find?_cons]
  by_cases h : v.Time ≤ t <;> simp [h]
end Go.M

namespace Go.M
open Go.AV
def hRec (h : THeld) : TRec := ⟨1, h.Txn, h.Time, h.Lead, h.Reads, h.Writes, false⟩
def hOf (r : TRec) : THeld := ⟨r.Txn, r.Time, r.Lead, r.Reads, r.Writes⟩
def hasK (l : List TWrite) (k : Str) : Bool := l.any fun w => w.Key == k
def hasS (l : List Str) (k : Str) : Bool := l.any fun x => k == x
theorem Z4 {l : List TWrite} {k : Str} : hasK l k = true ↔ ∃ w ∈ l, w.Key = k := by unfold hasK; simp
theorem n5 {l : List Str} {k : Str} : hasS l k = true ↔ k ∈ l := by unfold hasS; simp
def overlap (ws : List TWrite) (rs : List Str) (os : List TWrite) : Bool := ws.any fun w => hasK os w.Key || hasS rs w.Key
def clash (h k : THeld) : Bool := overlap h.Writes k.Reads k.Writes || overlap k.Writes h.Reads h.Writes
def apart (h : THeld) (rs : List Str) (ws : List TWrite) : Bool := rs.all (fun k => !hasK h.Writes k) && ws.all (fun w => !(hasK h.Writes w.Key || hasS h.Reads w.Key))
theorem r5 {h : THeld} {rs : List Str} {ws : List TWrite} : apart h rs ws = true ↔ (∀ k ∈ rs, ∀ w ∈ h.Writes, w.Key ≠ k) ∧ (∀ w ∈ ws, (∀ v ∈ h.Writes, v.Key ≠ w.Key) ∧ w.Key ∉ h.Reads) := by
  unfold apart
  simp only [Bool.and_eq_true, List.all_eq_true, Bool.not_eq_true', Bool.or_eq_false_iff]
  constructor
  · rintro ⟨h1, h2⟩
    refine ⟨fun k hk w hw e => ?_, fun w hw => ⟨fun v hv e => ?_, fun hr => ?_⟩⟩
    · have := h1 k hk; rw [Z4.2 ⟨w, hw, e⟩] at this; cases this
    · have := (h2 w hw).1; rw [Z4.2 ⟨v, hv, e⟩] at this; cases this
    · have := (h2 w hw).2; rw [n5.2 hr] at this; cases this
  · rintro ⟨h1, h2⟩
    refine ⟨fun k hk => ?_, fun w hw => ⟨?_, ?_⟩⟩
    · cases e : hasK h.Writes k with
      | false => rfl
      | true => obtain ⟨v, hv, ev⟩ := Z4.1 e; exact (h1 k hk v hv ev).elim
    · cases e : hasK h.Writes w.Key with
      | false => rfl
      | true => obtain ⟨v, hv, ev⟩ := Z4.1 e; exact ((h2 w hw).1 v hv ev).elim
    · cases e : hasS h.Reads w.Key with
      | false => rfl
      | true => exact ((h2 w hw).2 (n5.1 e)).elim
theorem AQ1 (h g : THeld) : clash h g = !apart g h.Reads h.Writes := by
  cases ha : apart g h.Reads h.Writes with
  | true =>
    obtain ⟨h1, h2⟩ := r5.1 ha
    refine Bool.eq_false_iff.2 fun hc => ?_
    unfold clash overlap at hc
    simp only [Bool.or_eq_true, List.any_eq_true] at hc
    rcases hc with ⟨w, hw, e | e⟩ | ⟨w, hw, e | e⟩
    · obtain ⟨v, hv, ev⟩ := Z4.1 e; exact (h2 w hw).1 v hv ev
    · exact (h2 w hw).2 (n5.1 e)
    · obtain ⟨v, hv, ev⟩ := Z4.1 e; exact (h2 v hv).1 w hw ev.symm
    · exact h1 _ (n5.1 e) w hw rfl
  | false =>
    rw [Bool.not_false]
    cases hc : clash h g with
    | true => rfl
    | false =>
      rw [← ha, r5.2]
      unfold clash overlap at hc
      simp only [Bool.or_eq_false_iff, List.any_eq_false, Bool.or_eq_true, not_or] at hc
      refine ⟨fun k hk w hw e => (hc.2 w hw).2 (n5.2 (e ▸ hk)), fun w hw => ⟨fun v hv e => (hc.1 w hw).1 (Z4.2 ⟨v, hv, e⟩), fun hr => (hc.1 w hw).2 (n5.2 hr)⟩⟩
theorem AK5 {h : THeld} {rs : List Str} {ws : List TWrite} {t m l : Int} (ha : apart h rs ws = true) : apart ⟨t, m, l, rs, ws⟩ h.Reads h.Writes = true := by
  obtain ⟨h1, h2⟩ := r5.1 ha
  exact r5.2 ⟨fun k hk w hw e => (h2 w hw).2 (e ▸ hk), fun w hw => ⟨fun v hv e => (h2 v hv).1 w hw e.symm, fun hr => h1 _ hr w hw rfl⟩⟩
def fullC (cells : List TCell) (k : Str) : Bool := match findC cells k with
  | some c => decide (16 ≤ c.Vers.length)
  | none => false
def hWs (l : List THeld) : List TWrite := (l.map THeld.Writes).flatten
def roomKs (cells : List TCell) (ws : List TWrite) : List Str := keysI (cKeys cells ++ wKeys ws)
def room (cells : List TCell) (ws : List TWrite) : Bool := ws.all (fun w => !fullC cells w.Key) && decide ((roomKs cells ws).length ≤ 24)
theorem AV7 (a b : List THeld) : hWs (a ++ b) = hWs a ++ hWs b := by unfold hWs; simp
theorem y7 (a : THeld) (b : List THeld) : hWs (a :: b) = a.Writes ++ hWs b := by unfold hWs; simp
theorem n7 {l : List THeld} {w : TWrite} : w ∈ hWs l ↔ ∃ h ∈ l, w ∈ h.Writes := by
  unfold hWs
  simp only [List.mem_flatten, List.mem_map]
  constructor
  · rintro ⟨_, ⟨a, ha, rfl⟩, hw⟩; exact ⟨a, ha, hw⟩
  · rintro ⟨h, hh, hw⟩; exact ⟨_, ⟨h, hh, rfl⟩, hw⟩
theorem AV8 {cells : List TCell} {ws : List TWrite} {k : Str} : k ∈ roomKs cells ws ↔ k ∈ cKeys cells ∨ k ∈ wKeys ws := by
  unfold roomKs; rw [Ac8, List.mem_append]
theorem Ax3 {l : List Str} (h : SrtS l) : l.Nodup := h.imp fun {a b} hab e => by rw [e, J8] at hab; cases hab
theorem AG5 {α : Type} [BEq α] [LawfulBEq α] : ∀ {a b : List α}, a.Nodup → (∀ x ∈ a, x ∈ b) → a.length ≤ b.length
  | [], _, _, _ => Nat.zero_le _
  | x :: a, b, ha, h => by
    obtain ⟨h1, h2⟩ := List.nodup_cons.1 ha
    have hx := h x List.mem_cons_self
    have ih := AG5 (b := b.erase x) h2 fun y hy => (List.mem_erase_of_ne (fun e : y = x => h1 (by rw [← e]; exact hy))).2 (h y (List.mem_cons_of_mem _ hy))
    rw [List.length_erase_of_mem hx] at ih
    have := List.length_pos_of_mem hx
    rw [J7]; omega
theorem srtS_le {a b : List Str} (ha : SrtS a) (h : ∀ x ∈ a, x ∈ b) : a.length ≤ b.length := AG5 (Ax3 ha) h
theorem AK6 {c1 c2 : List TCell} {w1 w2 : List TWrite} (h : ∀ k, k ∈ cKeys c1 ∨ k ∈ wKeys w1 → k ∈ cKeys c2 ∨ k ∈ wKeys w2) : (roomKs c1 w1).length ≤ (roomKs c2 w2).length :=
  srtS_le (Ac7 _) fun k hk => AV8.2 (h k (AV8.1 hk))
theorem Ad4 {cells : List TCell} {a b : List TWrite} (h : ∀ w, w ∈ a ↔ w ∈ b) : room cells a = room cells b := by
  unfold room
  have h1 : a.all (fun w => !fullC cells w.Key) = b.all (fun w => !fullC cells w.Key) := by
    rw [Bool.eq_iff_iff, List.all_eq_true, List.all_eq_true]
    exact ⟨fun k w hw => k w ((h w).2 hw), fun k w hw => k w ((h w).1 hw)⟩
  have hk : ∀ k, k ∈ wKeys a ↔ k ∈ wKeys b := fun k => by unfold wKeys; simp only [List.mem_map]; exact ⟨fun ⟨w, hw, e⟩ => ⟨w, (h w).1 hw, e⟩, fun ⟨w, hw, e⟩ => ⟨w, (h w).2 hw, e⟩⟩
  have h2 : (roomKs cells a).length = (roomKs cells b).length := Nat.le_antisymm (AK6 fun k hk2 => by rw [hk] at hk2; exact hk2) (AK6 fun k hk2 => by rw [← hk] at hk2; exact hk2)
  rw [h1, h2]
def allB (n : Nat) (p : Nat → Bool) : Bool := (List.range n).all p
theorem c9 {n : Nat} {p : Nat → Bool} : allB n p = true ↔ ∀ i, i < n → p i = true := by unfold allB; simp
theorem U7 {n i : Nat} {p : Nat → Bool} (hi : i < n) (h : p i = false) : allB n p = false := by
  cases e : allB n p with
  | false => rfl
  | true => rw [c9.1 e i hi] at h; cases h
def hasH (l : List THeld) (n : Int) : Bool := l.any fun h => h.Txn == n
def hasT (l : List TTold) (n : Int) : Bool := l.any fun t => t.Txn == n
def hPrev (l : List THeld) (i : Nat) (n : Int) : Bool := match l[i - 1]? with
  | some g => !(decide (0 < i) && decide (n ≤ g.Txn))
  | none => true
def tPrev (l : List TTold) (i : Nat) (n : Int) : Bool := match l[i - 1]? with
  | some g => !(decide (0 < i) && decide (n ≤ g.Txn))
  | none => true
def heldAt (s : TState) (i : Nat) : Bool := match s.Held[i]? with
  | none => true
  | some h => (((goodRec (hRec h) && !decide (s.Floor < h.Time)) && hPrev s.Held i h.Txn) && (s.Held.take i).all fun g => apart g h.Reads h.Writes) && h.Writes.all fun w => decide (lastTime s.Cells w.Key < h.Time)
def areHeld (s : TState) : Bool := allB s.Held.length (heldAt s) && (decide (s.Held.length ≤ 12) && room s.Cells (hWs s.Held))
def tFits (s : TState) (t : TTold) : Bool := if t.Yes = true then within t.Time 1 s.Floor else t.Time == 0
def toldAt (s : TState) (i : Nat) : Bool := match s.Told[i]? with
  | none => true
  | some t => ((isTxnR t.Txn && tFits s t) && tPrev s.Told i t.Txn) && !hasH s.Held t.Txn
def goodState (s : TState) : Bool := ((((isTrue s.Floor && goodCells s.Cells) && areHeld s) && decide (s.Told.length ≤ 60)) && s.Cells.all fun c => decide (lastTime s.Cells c.Key ≤ s.Floor)) && allB s.Told.length (toldAt s)
structure GS (s : TState) : Prop where
  floor : 0 ≤ s.Floor ∧ s.Floor ≤ 100000
  cells : goodCells s.Cells = true
  good : ∀ h ∈ s.Held, goodRec (hRec h) = true ∧ h.Time ≤ s.Floor ∧ ∀ w ∈ h.Writes, lastTime s.Cells w.Key < h.Time
  hsort : s.Held.Pairwise fun a b => a.Txn < b.Txn
  apart : s.Held.Pairwise fun a b => apart a b.Reads b.Writes = true
  hlen : s.Held.length ≤ 12
  room : room s.Cells (hWs s.Held) = true
  tlen : s.Told.length ≤ 60
  last : ∀ c ∈ s.Cells, lastTime s.Cells c.Key ≤ s.Floor
  told : ∀ t ∈ s.Told, isTxnR t.Txn = true ∧ tFits s t = true ∧ hasH s.Held t.Txn = false
  tsort : s.Told.Pairwise fun a b => a.Txn < b.Txn
theorem AG6 {α : Type} {f : α → Int} {l : List α} (h : ∀ (i : Nat) (x y : α), 0 < i → l[i]? = some x → l[i - 1]? = some y → f y < f x) : l.Pairwise fun a b => f a < f b := by
  have key : ∀ (j i : Nat) (x y : α), i < j → l[j]? = some x → l[i]? = some y → f y < f x := by
    intro j
    induction j with
    | zero => intro i x y hi; omega
    | succ j ih =>
      intro i x y hi hx hy
      have hj := (List.getElem?_eq_some_iff.1 hx).1
      have hz := List.getElem?_eq_getElem (show j < l.length by omega)
      have h1 := h (j + 1) x _ (by omega) hx hz
      rcases Nat.lt_or_ge i j with h2 | h2
      · have := ih i _ y h2 hz hy; omega
      · have : i = j := by omega
        subst this; rw [hz] at hy; injection hy with hy; subst hy; exact h1
  rw [List.pairwise_iff_getElem]
  intro i j hi hj hij
  exact key j i _ _ hij (List.getElem?_eq_getElem hj) (List.getElem?_eq_getElem hi)
theorem AK7 {l : List THeld} {i : Nat} {n : Int} : hPrev l i n = true ↔ ∀ g, 0 < i → l[i - 1]? = some g → g.Txn < n := by
  unfold hPrev
  cases h : l[i - 1]? with
  | none => simp
  | some g =>
    simp only [Bool.not_eq_true', Bool.and_eq_false_iff, decide_eq_false_iff_not]
    exact ⟨fun k y h0 e => by injection e with e; subst e; omega, fun k => if h0 : 0 < i then .inr (by have := k g h0 rfl; omega) else .inl h0⟩
theorem Ad5 {l : List TTold} {i : Nat} {n : Int} : tPrev l i n = true ↔ ∀ g, 0 < i → l[i - 1]? = some g → g.Txn < n := by
  unfold tPrev
  cases h : l[i - 1]? with
  | none => simp
  | some g =>
    simp only [Bool.not_eq_true', Bool.and_eq_false_iff, decide_eq_false_iff_not]
    exact ⟨fun k y h0 e => by injection e with e; subst e; omega, fun k => if h0 : 0 < i then .inr (by have := k g h0 rfl; omega) else .inl h0⟩
theorem Ad6 {α : Type} {p : α → α → Prop} {l : List α} : l.Pairwise p ↔ ∀ (i : Nat) (x : α), l[i]? = some x → ∀ y ∈ l.take i, p y x := by
  rw [List.pairwise_iff_getElem]
  constructor
  · intro h i x hx y hy
    obtain ⟨j, hj⟩ := List.getElem?_of_mem hy
    have hi := (List.getElem?_eq_some_iff.1 hx)
    have hjl := (List.getElem?_eq_some_iff.1 hj).1
    rw [E6] at hjl
    rw [List.getElem?_take_of_lt (by omega)] at hj
    have hj2 := (List.getElem?_eq_some_iff.1 hj)
    obtain ⟨hi1, hi2⟩ := hi
    obtain ⟨hj3, hj4⟩ := hj2
    have := h j i hj3 hi1 (by omega)
    rw [hi2, hj4] at this; exact this
  · intro h i j hi hj hij
    refine h j _ (List.getElem?_eq_getElem hj) _ (G6 (i := i) ?_)
    rw [List.getElem?_take_of_lt hij]; exact List.getElem?_eq_getElem hi
theorem R4 {s : TState} : goodState s = true ↔ GS s := by
  unfold goodState areHeld
  simp only [Bool.and_eq_true, decide_eq_true_eq, c9, List.all_eq_true]
  constructor
  · rintro ⟨⟨⟨⟨⟨h1, h2⟩, h3, h4, h5⟩, h6⟩, h7⟩, h8⟩
    have hh : ∀ (i : Nat) (h : THeld), s.Held[i]? = some h → goodRec (hRec h) = true ∧ h.Time ≤ s.Floor ∧ (∀ g, 0 < i → s.Held[i - 1]? = some g → g.Txn < h.Txn) ∧ (∀ g ∈ s.Held.take i, apart g h.Reads h.Writes = true) ∧ ∀ w ∈ h.Writes, lastTime s.Cells w.Key < h.Time := fun i h hi => by
      have := h3 i (List.getElem?_eq_some_iff.1 hi).1
      unfold heldAt at this
      rw [hi] at this
      simp only [Bool.and_eq_true, List.all_eq_true, decide_eq_true_eq, AK7, Bool.not_eq_true', decide_eq_false_iff_not] at this
      exact ⟨this.1.1.1.1, by omega, this.1.1.2, this.1.2, this.2⟩
    have ht : ∀ (i : Nat) (t : TTold), s.Told[i]? = some t → isTxnR t.Txn = true ∧ tFits s t = true ∧ (∀ g, 0 < i → s.Told[i - 1]? = some g → g.Txn < t.Txn) ∧ hasH s.Held t.Txn = false := fun i t hi => by
      have := h8 i (List.getElem?_eq_some_iff.1 hi).1
      unfold toldAt at this
      rw [hi] at this
      simp only [Bool.and_eq_true, Ad5, Bool.not_eq_true'] at this
      exact ⟨this.1.1.1, this.1.1.2, this.1.2, this.2⟩
    unfold isTrue within at h1
    simp only [Bool.and_eq_true, decide_eq_true_eq] at h1
    refine ⟨h1, h2, fun h hm => ?_, AG6 fun i x y h0 hx hy => (hh i x hx).2.2.1 y h0 hy, Ad6.2 fun i x hx => (hh i x hx).2.2.2.1, h4, h5, h6, h7, fun t hm => ?_, AG6 fun i x y h0 hx hy => (ht i x hx).2.2.1 y h0 hy⟩
    · obtain ⟨i, hi⟩ := List.getElem?_of_mem hm
      have := hh i h hi
      exact ⟨this.1, this.2.1, this.2.2.2.2⟩
    · obtain ⟨i, hi⟩ := List.getElem?_of_mem hm
      have := ht i t hi
      exact ⟨this.1, this.2.1, this.2.2.2⟩
  · intro g
    have hch : ∀ {α : Type} {f : α → Int} {l : List α}, (l.Pairwise fun a b => f a < f b) → ∀ (i : Nat) (x y : α), 0 < i → l[i]? = some x → l[i - 1]? = some y → f y < f x := fun {α f l} hp i x y h0 hx hy => by
      obtain ⟨hx1, hx2⟩ := List.getElem?_eq_some_iff.1 hx
      obtain ⟨hy1, hy2⟩ := List.getElem?_eq_some_iff.1 hy
      have := List.pairwise_iff_getElem.1 hp (i - 1) i hy1 hx1 (by omega)
      rw [hx2, hy2] at this; exact this
    refine ⟨⟨⟨⟨⟨?_, g.cells⟩, fun i hi => ?_, g.hlen, g.room⟩, g.tlen⟩, g.last⟩, fun i hi => ?_⟩
    · unfold isTrue within; simp [g.floor]
    · unfold heldAt
      rw [List.getElem?_eq_getElem hi]
      have hx := List.getElem?_eq_getElem hi
      obtain ⟨g1, g2, g3⟩ := g.good _ (G6 hx)
      simp only [Bool.and_eq_true, List.all_eq_true, decide_eq_true_eq, AK7, Bool.not_eq_true', decide_eq_false_iff_not]
      exact ⟨⟨⟨⟨g1, by omega⟩, fun y h0 hy => hch g.hsort i _ y h0 hx hy⟩, fun y hy => Ad6.1 g.apart i _ hx y hy⟩, g3⟩
    · unfold toldAt
      rw [List.getElem?_eq_getElem hi]
      have hx := List.getElem?_eq_getElem hi
      obtain ⟨g1, g2, g3⟩ := g.told _ (G6 hx)
      simp only [Bool.and_eq_true, Ad5, Bool.not_eq_true']
      exact ⟨⟨⟨g1, g2⟩, fun y h0 hy => hch g.tsort i _ y h0 hx hy⟩, g3⟩
end Go.M

namespace Go.M
open Go.AV
def insH (h : THeld) : List THeld → List THeld
  | [] => [h]
  | g :: l => if h.Txn < g.Txn then h :: g :: l else g :: insH h l
def insT (h : TTold) : List TTold → List TTold
  | [] => [h]
  | g :: l => if h.Txn < g.Txn then h :: g :: l else g :: insT h l
def lessH (l : List THeld) (n : Int) : List THeld := l.filter fun h => h.Txn != n
def findH (l : List THeld) (n : Int) : Option THeld := l.find? fun h => h.Txn == n
def findT (l : List TTold) (n : Int) : Option TTold := l.find? fun t => t.Txn == n
def fits (s : TState) (rs : List Str) (ws : List TWrite) : Bool := (s.Held.all fun h => apart h rs ws) && (decide (s.Held.length < 12) && room s.Cells (hWs s.Held ++ ws))
def doneS (s : TState) (r : TRec) (fl : Int) (q : List TCell) : TState := ⟨fl, q, lessH s.Held r.Txn, insT ⟨r.Txn, r.Yes, r.Time⟩ s.Told⟩
def applyS (s : TState) (r : TRec) : TState × Bool :=
  if r.Kind = 4 then (⟨r.Time, s.Cells, s.Held, s.Told⟩, decide (s.Floor < r.Time))
  else if hasT s.Told r.Txn = true then (s, false)
  else if r.Kind = 1 then (⟨r.Time, s.Cells, insH (hOf r) s.Held, s.Told⟩, (!hasH s.Held r.Txn && decide (s.Floor < r.Time)) && fits s r.Reads r.Writes)
  else if r.Yes = true then (match findH s.Held r.Txn with
    | none => (s, false)
    | some h => if r.Time < h.Time then (s, false) else if (putP s.Cells h.Writes r.Time).2 = true then (doneS s r (if s.Floor < r.Time then r.Time else s.Floor) (putP s.Cells h.Writes r.Time).1, true) else (s, false))
  else (doneS s r s.Floor s.Cells, true)
def zState : TState := ⟨0, [], [], []⟩
def stepS (s : TState) (r : TRec) : TState := if (applyS s r).2 = true then (applyS s r).1 else s
def stFrom (s : TState) (l : List TRec) : TState := l.foldl stepS s
def didFrom (s : TState) : List TRec → List Bool
  | [] => []
  | r :: l => (applyS s r).2 :: didFrom (stepS s r) l
theorem r6 (h : THeld) : ∀ l, (insH h l).Perm (h :: l)
  | [] => List.Perm.refl _
  | g :: l => by
    unfold insH
    split
    · exact List.Perm.refl _
    · exact (List.Perm.cons g (r6 h l)).trans (List.Perm.swap h g l)
theorem r7 (h : TTold) : ∀ l, (insT h l).Perm (h :: l)
  | [] => List.Perm.refl _
  | g :: l => by
    unfold insT
    split
    · exact List.Perm.refl _
    · exact (List.Perm.cons g (r7 h l)).trans (List.Perm.swap h g l)
theorem d3 {h x : THeld} {l : List THeld} : x ∈ insH h l ↔ x = h ∨ x ∈ l := by rw [(r6 h l).mem_iff, List.mem_cons]
theorem AG7 {h x : TTold} {l : List TTold} : x ∈ insT h l ↔ x = h ∨ x ∈ l := by rw [(r7 h l).mem_iff, List.mem_cons]
theorem AK8 {h : THeld} : ∀ {l : List THeld}, (l.Pairwise fun a b => a.Txn < b.Txn) → (∀ g ∈ l, g.Txn ≠ h.Txn) → (insH h l).Pairwise fun a b => a.Txn < b.Txn
  | [], _, _ => by unfold insH; simp
  | g :: l, hs, hn => by
    obtain ⟨h1, h2⟩ := List.pairwise_cons.1 hs
    have hg := hn g List.mem_cons_self
    unfold insH
    split
    · rename_i hlt
      refine List.pairwise_cons.2 ⟨fun y hy => ?_, hs⟩
      rcases List.mem_cons.1 hy with rfl | hy
      · exact hlt
      · have := h1 y hy; omega
    · refine List.pairwise_cons.2 ⟨fun y hy => ?_, AK8 h2 fun y hy => hn y (List.mem_cons_of_mem _ hy)⟩
      rcases d3.1 hy with rfl | hy
      · omega
      · exact h1 y hy
theorem AK9 {h : TTold} : ∀ {l : List TTold}, (l.Pairwise fun a b => a.Txn < b.Txn) → (∀ g ∈ l, g.Txn ≠ h.Txn) → (insT h l).Pairwise fun a b => a.Txn < b.Txn
  | [], _, _ => by unfold insT; simp
  | g :: l, hs, hn => by
    obtain ⟨h1, h2⟩ := List.pairwise_cons.1 hs
    have hg := hn g List.mem_cons_self
    unfold insT
    split
    · rename_i hlt
      refine List.pairwise_cons.2 ⟨fun y hy => ?_, hs⟩
      rcases List.mem_cons.1 hy with rfl | hy
      · exact hlt
      · have := h1 y hy; omega
    · refine List.pairwise_cons.2 ⟨fun y hy => ?_, AK9 h2 fun y hy => hn y (List.mem_cons_of_mem _ hy)⟩
      rcases AG7.1 hy with rfl | hy
      · omega
      · exact h1 y hy
theorem hasH_iff {l : List THeld} {n : Int} : hasH l n = true ↔ ∃ h ∈ l, h.Txn = n := by unfold hasH; simp
theorem i4 {l : List THeld} {n : Int} : hasH l n = false ↔ ∀ h ∈ l, h.Txn ≠ n := by unfold hasH; simp
theorem hasT_iff {l : List TTold} {n : Int} : hasT l n = true ↔ ∃ h ∈ l, h.Txn = n := by unfold hasT; simp
theorem AS7 {l : List TTold} {n : Int} : hasT l n = false ↔ ∀ h ∈ l, h.Txn ≠ n := by unfold hasT; simp
theorem Y9 {l : List THeld} {n : Int} {h : THeld} : h ∈ lessH l n ↔ h ∈ l ∧ h.Txn ≠ n := by unfold lessH; simp
theorem AV9 : ∀ {l : List TTold} {a : Int}, (l.Pairwise fun a b => a.Txn < b.Txn) → (∀ t ∈ l, a < t.Txn ∧ t.Txn ≤ 60) → l.length ≤ (60 - a).toNat
  | [], _, _, _ => Nat.zero_le _
  | t :: l, a, hs, h => by
    obtain ⟨h1, h2⟩ := List.pairwise_cons.1 hs
    have ht := h t List.mem_cons_self
    have := AV9 (a := t.Txn) h2 fun u hu => ⟨h1 u hu, (h u (List.mem_cons_of_mem _ hu)).2⟩
    rw [J7]; omega
theorem Ax4 {n : Int} : isTxnR n = true ↔ 1 ≤ n ∧ n ≤ 60 := by unfold isTxnR within; simp
theorem AD7 {a b : List TCell} {k : Str} (h : findC a k = findC b k) : lastTime a k = lastTime b k := by unfold lastTime; rw [h]
theorem Aq9 {a b : List TCell} {k : Str} (h : findC a k = findC b k) : fullC a k = fullC b k := by unfold fullC; rw [h]
theorem Ad7 {l : List TCell} {k : Str} {c : TCell} (h : findC l k = some c) : c ∈ l ∧ c.Key = k := by
  unfold findC at h
  exact ⟨List.mem_of_find?_eq_some h, by simpa using List.find?_some h⟩
theorem Au6 {s : TState} (g : GS s) (k : Str) : lastTime s.Cells k ≤ s.Floor := by
  have h0 := g.floor.1
  cases h : findC s.Cells k with
  | none => unfold lastTime; rw [h]; exact h0
  | some c =>
    obtain ⟨h1, h2⟩ := Ad7 h
    rw [← h2]; exact g.last c h1
theorem AG8 {s s' : TState} {t : TTold} (h : s.Floor ≤ s'.Floor) (ht : tFits s t = true) : tFits s' t = true := by
  unfold tFits within at *
  split
  · rename_i hy; rw [if_pos hy] at ht; simp only [Bool.and_eq_true, decide_eq_true_eq] at *; omega
  · rename_i hy; rw [if_neg hy] at ht; exact ht
theorem gs_floor {s : TState} (g : GS s) {t : Int} (h1 : s.Floor ≤ t) (h2 : t ≤ 100000) : GS ⟨t, s.Cells, s.Held, s.Told⟩ := by
  have h0 := g.floor.1
  exact ⟨⟨by dsimp only; omega, h2⟩, g.cells, fun h hm => ⟨(g.good h hm).1, by have := (g.good h hm).2.1; dsimp only; omega, (g.good h hm).2.2⟩, g.hsort, g.apart, g.hlen, g.room, g.tlen, fun c hc => by have := g.last c hc; dsimp only; omega, fun u hu => ⟨(g.told u hu).1, AG8 h1 (g.told u hu).2.1, (g.told u hu).2.2⟩, g.tsort⟩
theorem BB9 {r : TRec} (h : goodRec r = true) (hk : r.Kind = 1) : r.Yes = false := by
  unfold goodRec at h
  rw [if_pos hk] at h
  unfold good1 at h
  simp only [Bool.and_eq_true, Bool.not_eq_true'] at h
  exact h.2
theorem Al3 {r : TRec} (h : goodRec r = true) : 0 ≤ r.Time ∧ r.Time ≤ 100000 := (goodR h).time
theorem hRec_hOf {r : TRec} (h : goodRec r = true) (hk : r.Kind = 1) : hRec (hOf r) = r := by
  have := BB9 h hk
  unfold hRec hOf
  cases r; simp_all
theorem hWs_ins {h : THeld} {l : List THeld} {w : TWrite} : w ∈ hWs (insH h l) ↔ w ∈ hWs l ++ h.Writes := by
  rw [n7, List.mem_append, n7]
  constructor
  · rintro ⟨x, hx, hw⟩
    rcases d3.1 hx with rfl | hx
    · exact Or.inr hw
    · exact Or.inl ⟨x, hx, hw⟩
  · rintro (⟨x, hx, hw⟩ | hw)
    · exact ⟨x, d3.2 (Or.inr hx), hw⟩
    · exact ⟨h, d3.2 (Or.inl rfl), hw⟩
theorem fits_iff {s : TState} {rs : List Str} {ws : List TWrite} : fits s rs ws = true ↔ (∀ h ∈ s.Held, apart h rs ws = true) ∧ s.Held.length < 12 ∧ room s.Cells (hWs s.Held ++ ws) = true := by
  unfold fits; simp only [Bool.and_eq_true, List.all_eq_true, decide_eq_true_eq]
theorem Ax5 {s : TState} (g : GS s) {r : TRec} (hr : goodRec r = true) (hk : r.Kind = 1) (hh : hasH s.Held r.Txn = false) (hT : hasT s.Told r.Txn = false) (ht : s.Floor < r.Time) (hf : fits s r.Reads r.Writes = true) :
    GS ⟨r.Time, s.Cells, insH (hOf r) s.Held, s.Told⟩ := by
  obtain ⟨f1, f2, f3⟩ := fits_iff.1 hf
  have htm := Al3 hr
  have h0 := g.floor.1
  have hnh := i4.1 hh
  have hnt := AS7.1 hT
  refine ⟨⟨htm.1, htm.2⟩, g.cells, fun h hm => ?_, AK8 g.hsort hnh, ?_, ?_, ?_, g.tlen, fun c hc => ?_, fun t hm => ⟨(g.told t hm).1, AG8 (by dsimp only; omega) (g.told t hm).2.1, ?_⟩, g.tsort⟩
  · rcases d3.1 hm with rfl | hm
    · refine ⟨by rw [hRec_hOf hr hk]; exact hr, Int.le_refl _, fun w hw => ?_⟩
      have := Au6 g w.Key
      show lastTime s.Cells w.Key < r.Time
      omega
    · obtain ⟨g1, g2, g3⟩ := g.good h hm
      exact ⟨g1, by dsimp only; omega, g3⟩
  · refine ((r6 (hOf r) s.Held).pairwise_iff (fun {x y} hxy => AK5 hxy)).2 (List.pairwise_cons.2 ⟨fun y hy => AK5 (f1 y hy), g.apart⟩)
  · rw [(r6 _ _).length_eq, J7]; omega
  · rw [Ad4 fun w => hWs_ins]; exact f3
  · have := g.last c hc; dsimp only; omega
  · refine i4.2 fun h hm e => ?_
    rcases d3.1 hm with rfl | hm
    · exact hnt t ‹_› e.symm
    · exact i4.1 (g.told t ‹_›).2.2 h hm e
theorem AW0 {s : TState} (g : GS s) {n fl : Int} {q : List TCell} {t : TTold} (hn : t.Txn = n) (hx : isTxnR n = true) (hT : hasT s.Told n = false) (hfl : s.Floor ≤ fl ∧ fl ≤ 100000) (hq : goodCells q = true) (hlast : ∀ c ∈ q, lastTime q c.Key ≤ fl)
    (hkeep : ∀ k ∈ lessH s.Held n, ∀ w ∈ k.Writes, findC q w.Key = findC s.Cells w.Key) (hkeys : ∀ k ∈ cKeys q, k ∈ cKeys s.Cells ∨ k ∈ wKeys (hWs s.Held)) (htf : (if t.Yes = true then within t.Time 1 fl else t.Time == 0) = true) : GS ⟨fl, q, lessH s.Held n, insT t s.Told⟩ := by
  have h0 := g.floor.1
  have hnt := AS7.1 hT
  have hsub : (lessH s.Held n).Sublist s.Held := List.filter_sublist
  have htl : ∀ u ∈ insT t s.Told, isTxnR u.Txn = true ∧ tFits ⟨fl, q, lessH s.Held n, insT t s.Told⟩ u = true ∧ hasH (lessH s.Held n) u.Txn = false := fun u hu => by
    rcases AG7.1 hu with rfl | hu
    · exact ⟨hn ▸ hx, htf, i4.2 fun h hm e => (Y9.1 hm).2 (e.trans hn)⟩
    · obtain ⟨a, b, c⟩ := g.told u hu
      exact ⟨a, AG8 hfl.1 b, i4.2 fun h hm e => i4.1 c h (Y9.1 hm).1 e⟩
  have hts := AK9 (h := t) g.tsort fun u hu => by rw [hn]; exact hnt u hu
  refine ⟨⟨by dsimp only; omega, hfl.2⟩, hq, fun h hm => ?_, g.hsort.sublist hsub, g.apart.sublist hsub, Nat.le_trans hsub.length_le g.hlen, ?_, ?_, hlast, htl, hts⟩
  · obtain ⟨g1, g2, g3⟩ := g.good h (Y9.1 hm).1
    exact ⟨g1, by dsimp only; omega, fun w hw => by rw [show lastTime q w.Key = _ from AD7 (hkeep h hm w hw)]; exact g3 w hw⟩
  · have hr := g.room
    unfold room at hr ⊢
    simp only [Bool.and_eq_true, List.all_eq_true, decide_eq_true_eq] at hr ⊢
    refine ⟨fun w hw => ?_, Nat.le_trans (AK6 fun k hk => ?_) hr.2⟩
    · obtain ⟨h, hm, hwh⟩ := n7.1 hw
      rw [Aq9 (hkeep h hm w hwh)]
      exact hr.1 w (n7.2 ⟨h, (Y9.1 hm).1, hwh⟩)
    · rcases hk with hk | hk
      · exact hkeys k hk
      · refine Or.inr ?_
        unfold wKeys at hk ⊢
        obtain ⟨w, hw, e⟩ := List.mem_map.1 hk
        obtain ⟨h, hm, hwh⟩ := n7.1 hw
        exact List.mem_map.2 ⟨w, n7.2 ⟨h, (Y9.1 hm).1, hwh⟩, e⟩
  · have := AV9 (a := 0) hts fun u hu => by have := Ax4.1 (htl u hu).1; omega
    exact this
theorem put_keys {l q : List TCell} {w : List TWrite} {t : Int} (hw : (w.map TWrite.Key).Nodup) (hl : adj cLess l = true) (hq : adj cLess q = true) (h : putAll l w t = some q) : ∀ k ∈ cKeys q, k ∈ cKeys l ∨ k ∈ wKeys w := fun k hk => by
  obtain ⟨h1, h2⟩ := AG4 hw hl h
  by_cases hm : k ∈ w.map TWrite.Key
  · exact Or.inr hm
  · left
    unfold cKeys at hk
    obtain ⟨c, hc, e⟩ := List.mem_map.1 hk
    obtain ⟨i, hi⟩ := List.getElem?_of_mem hc
    have h3 := Ak8 hq hi
    rw [e, h2 k hm] at h3
    obtain ⟨h4, h5⟩ := Ad7 h3
    exact List.mem_map.2 ⟨c, h4, e⟩
theorem put_last {l q : List TCell} {w : List TWrite} {t : Int} (hw : (w.map TWrite.Key).Nodup) (hl : adj cLess l = true) (h : putAll l w t = some q) (k : Str) : lastTime q k = t ∨ lastTime q k = lastTime l k := by
  obtain ⟨h1, h2⟩ := AG4 hw hl h
  by_cases hm : k ∈ w.map TWrite.Key
  · obtain ⟨x, hx, e⟩ := List.mem_map.1 hm
    have := h1 x hx
    rw [e] at this
    left; unfold lastTime lastV; rw [this]; simp
  · right; exact AD7 (h2 k hm)
theorem l7 {l : List THeld} {n : Int} {h : THeld} (e : findH l n = some h) : h ∈ l ∧ h.Txn = n := by
  unfold findH at e
  exact ⟨List.mem_of_find?_eq_some e, by simpa using List.find?_some e⟩
theorem AW1 {l : List THeld} {n : Int} : findH l n = none ↔ hasH l n = false := by
  unfold findH hasH; rw [List.find?_eq_none, List.any_eq_false]
theorem Ar0 {s : TState} (g : GS s) {h : THeld} (hm : h ∈ s.Held) : goodWrites h.Writes = true := by
  have := (g.good h hm).1
  unfold goodRec hRec at this
  rw [if_pos rfl] at this
  unfold good1 at this
  simp only [Bool.and_eq_true] at this
  exact this.1.1.2
theorem Ax6 {s : TState} (g : GS s) {h k : THeld} (hh : h ∈ s.Held) (hk : k ∈ s.Held) (hne : k.Txn ≠ h.Txn) : apart k h.Reads h.Writes = true := by
  obtain ⟨i, hi⟩ := List.getElem?_of_mem hh
  obtain ⟨j, hj⟩ := List.getElem?_of_mem hk
  obtain ⟨i1, i2⟩ := List.getElem?_eq_some_iff.1 hi
  obtain ⟨j1, j2⟩ := List.getElem?_eq_some_iff.1 hj
  have hp := List.pairwise_iff_getElem.1 g.apart
  rcases Nat.lt_trichotomy i j with h1 | h1 | h1
  · have := hp i j i1 j1 h1
    rw [i2, j2] at this; exact AK5 this
  · subst h1; rw [hi] at hj; injection hj with hj; exact (hne (by rw [hj])).elim
  · have := hp j i j1 i1 h1
    rw [i2, j2] at this; exact this
theorem gs_yes {s : TState} (g : GS s) {h : THeld} (hm : h ∈ s.Held) {t : Int} (hx : isTxnR h.Txn = true) (hT : hasT s.Told h.Txn = false) (ht : h.Time ≤ t ∧ t ≤ 100000) {q : List TCell} (hp : putAll s.Cells h.Writes t = some q) (hq : goodCells q = true) :
    GS ⟨if s.Floor < t then t else s.Floor, q, lessH s.Held h.Txn, insT ⟨h.Txn, true, t⟩ s.Told⟩ := by
  have hw := Al2 (Ar0 g hm)
  have ha := (P4 g.cells).2.1
  have hqa := (P4 hq).2.1
  have h0 := g.floor
  have ht1 : 1 ≤ h.Time := by
    have := (g.good h hm).1
    unfold goodRec hRec at this
    rw [if_pos rfl] at this
    unfold good1 isTime within at this
    simp only [Bool.and_eq_true, decide_eq_true_eq] at this
    omega
  refine AW0 g rfl hx hT (by split <;> omega) hq (fun c hc => ?_) (fun k hk w hwk => ?_) (fun k hk => ?_) ?_
  · rcases put_last hw ha hp c.Key with e | e
    · rw [e]; split <;> omega
    · rw [e]; have := Au6 g c.Key; split <;> omega
  · obtain ⟨k1, k2⟩ := Y9.1 hk
    refine (AG4 hw ha hp).2 _ fun hmem => ?_
    obtain ⟨v, hv, e⟩ := List.mem_map.1 hmem
    exact ((r5.1 (Ax6 g hm k1 k2)).2 v hv).1 w hwk e.symm
  · rcases put_keys hw ha hqa hp k hk with e | e
    · exact Or.inl e
    · refine Or.inr ?_
      unfold wKeys at e ⊢
      obtain ⟨w, hw2, e⟩ := List.mem_map.1 e
      exact List.mem_map.2 ⟨w, n7.2 ⟨h, hm, hw2⟩, e⟩
  · rw [if_pos rfl]; unfold within; simp only [Bool.and_eq_true, decide_eq_true_eq]; split <;> omega
theorem good2_of {r : TRec} (h : goodRec r = true) (h4 : r.Kind ≠ 4) (h1 : r.Kind ≠ 1) : good2 r = true := by
  unfold goodRec at h
  rw [if_neg h1] at h
  split at h
  · exact h
  · cases h
theorem AD8 {l : List TCell} {w : List TWrite} {t : Int} (h : (putP l w t).2 = true) : putAll l w t = some (putP l w t).1 ∧ goodCells (putP l w t).1 = true := by
  unfold putP at h ⊢
  cases hp : putAll l w t with
  | none => rw [hp] at h; cases h
  | some q => rw [hp] at h; dsimp only at h ⊢; exact ⟨rfl, by rw [T8]; exact h⟩
theorem gs_apply {s : TState} (g : GS s) {r : TRec} (hr : goodRec r = true) (h : (applyS s r).2 = true) : GS (applyS s r).1 := by
  have htm := Al3 hr
  unfold applyS at h ⊢
  by_cases h4 : r.Kind = 4
  · rw [if_pos h4] at h ⊢
    exact gs_floor g (by have := of_decide_eq_true h; omega) htm.2
  · rw [if_neg h4] at h ⊢
    by_cases hT : hasT s.Told r.Txn = true
    · rw [if_pos hT] at h; cases h
    · rw [if_neg hT] at h ⊢
      rw [Bool.not_eq_true] at hT
      by_cases h1 : r.Kind = 1
      · rw [if_pos h1] at h ⊢
        simp only [Bool.and_eq_true, Bool.not_eq_true', decide_eq_true_eq] at h
        exact Ax5 g hr h1 h.1.1 hT h.1.2 h.2
      · rw [if_neg h1] at h ⊢
        have h2 := good2_of hr h4 h1
        unfold good2 at h2
        simp only [Bool.and_eq_true, Bool.or_eq_true, Bool.not_eq_true', beq_iff_eq] at h2
        obtain ⟨⟨_, hx⟩, h3⟩ := h2
        by_cases hy : r.Yes = true
        · rw [if_pos hy] at h ⊢
          cases hf : findH s.Held r.Txn with
          | none => rw [hf] at h; cases h
          | some k =>
            rw [hf] at h
            dsimp only at h ⊢
            by_cases hlt : r.Time < k.Time
            · rw [if_pos hlt] at h; cases h
            · rw [if_neg hlt] at h ⊢
              by_cases hp : (putP s.Cells k.Writes r.Time).2 = true
              · rw [if_pos hp]
                obtain ⟨p1, p2⟩ := AD8 hp
                obtain ⟨k1, k2⟩ := l7 hf
                have := gs_yes g k1 (t := r.Time) (by rw [k2]; exact hx) (by rw [k2]; exact hT) ⟨by omega, htm.2⟩ p1 p2
                rw [k2] at this
                unfold doneS; rw [hy]; exact this
              · rw [if_neg hp] at h; cases h
        · rw [if_neg hy]
          rw [Bool.not_eq_true] at hy
          rw [hy] at h3
          simp only [Bool.false_eq_true, false_and, true_and, false_or] at h3
          have h0 := g.floor
          unfold doneS
          refine AW0 g rfl hx hT ⟨Int.le_refl _, h0.2⟩ g.cells g.last (fun _ _ _ _ => rfl) (fun k hk => Or.inl hk) ?_
          rw [hy, h3]; rfl
theorem AO7 : GS zState where
  floor := by decide
  cells := by decide
  good := fun h hm => by cases hm
  hsort := List.Pairwise.nil
  apart := List.Pairwise.nil
  hlen := by decide
  room := by
    unfold room roomKs
    rw [Bool.and_eq_true]
    refine ⟨rfl, decide_eq_true ?_⟩
    exact Nat.le_trans (BB2 _) (by decide)
  tlen := by decide
  last := fun c hc => by cases hc
  told := fun t ht => by cases ht
  tsort := List.Pairwise.nil
theorem AZ5 {s : TState} (g : GS s) {r : TRec} (hr : goodRec r = true) : GS (stepS s r) := by
  unfold stepS
  split
  · exact gs_apply g hr ‹_›
  · exact g
theorem AO8 : ∀ {l : List TRec} {s : TState}, GS s → (∀ r ∈ l, goodRec r = true) → GS (stFrom s l)
  | [], s, g, _ => g
  | r :: l, s, g, h => by
    show GS (stFrom (stepS s r) l)
    exact AO8 (AZ5 g (h r List.mem_cons_self)) fun x hx => h x (List.mem_cons_of_mem _ hx)
end Go.M

set_option maxRecDepth 100000
namespace Go.Proofs.YtkegepoihkhihaaGreat
open Go Go.AV Go.M
attribute [local irreducible] OpW OpA OpS AWP FSpec ESpec RetOk RvDen Le Ev GuardIs
theorem U8 (a b c : Int) : FSpec Tryz.prog 82 [AV.int a, AV.int b, AV.int c] (AV.bool (within a b c)) := by
 refine D8 Tryz.func82 rfl Tryz.ntmps82 rfl ?_
 refine A3 (A2 ?_)
 refine A1 rfl (B3 rfl F0) ?_
 refine A4 (A3 (A2 ?_))
 refine A5 rfl ?_
 refine A5 rfl ?_
 refine A1 rfl (V3 rfl (A0 rfl) (A0 rfl)) ?_
 refine A5 rfl ?_
 refine C4 rfl (fun hc => B7 rfl (A0 rfl)) ?_
 refine C4 rfl (fun hc => B7 rfl (A0 rfl)) ?_
 refine C4 rfl (fun hc => S1 rfl (A6 rfl hc) (A6 rfl hc)) ?_
 refine A1 rfl (G8 rfl (A0 rfl) (F1 rfl)) ?_
 refine B4 rfl ?_
 refine A4 ?_
 refine C2 ?_
 exact G1 rfl (B8 rfl (by first | rfl | (refine congrArg AV.bool ?_; simp_all; done)))
theorem R9 (a b c : Int) : FSpec Tryz.prog 39 [AV.int a, AV.int b, AV.int c] (AV.bool (within a b c)) := by
 refine D8 Tryz.func39 rfl Tryz.ntmps39 rfl ?_
 refine A3 (A2 ?_)
 refine A1 rfl (B3 rfl F0) ?_
 refine A4 (A3 (A2 ?_))
 refine A5 rfl ?_
 refine A5 rfl ?_
 refine A1 rfl (V3 rfl (A0 rfl) (A0 rfl)) ?_
 refine A5 rfl ?_
 refine C4 rfl (fun hc => B7 rfl (A0 rfl)) ?_
 refine C4 rfl (fun hc => B7 rfl (A0 rfl)) ?_
 refine C4 rfl (fun hc => S1 rfl (A6 rfl hc) (A6 rfl hc)) ?_
 refine A1 rfl (G8 rfl (A0 rfl) (F1 rfl)) ?_
 refine B4 rfl ?_
 refine A4 ?_
 refine C2 ?_
 exact G1 rfl (B8 rfl (by first | rfl | (refine congrArg AV.bool ?_; simp_all; done)))
theorem Ar1 (c : UInt8) : FSpec Tryz.prog 208 [AV.byte c] (AV.bool (lowDig c)) := by
 refine D8 Tryz.func208 rfl Tryz.ntmps208 rfl ?_
 refine A3 (A2 ?_)
 refine A1 rfl (B3 rfl F0) ?_
 refine A4 (A3 (A2 ?_))
 refine A5 rfl ?_
 refine A1 rfl (V3 rfl (A0 rfl) B5) ?_
 refine A5 rfl ?_
 refine C4 rfl (fun hc => B7 rfl (A0 rfl)) ?_
 refine C4 rfl (fun hc => S1 rfl (A6 rfl hc) B5) ?_
 refine A1 rfl (G8 rfl (A0 rfl) (F1 rfl)) ?_
 refine A5 rfl ?_
 refine H2 rfl (fun hc => B7 rfl (A0 rfl)) ?_
 refine H2 rfl (fun hc => V3 rfl (A6 rfl hc) B5) ?_
 refine H2 rfl (fun hc => B7 rfl (A6 rfl hc)) ?_
 refine H6 rfl rfl (D6 rfl rfl rfl) (fun hc => B7 rfl (A0 rfl)) ?_
 refine H6 rfl rfl (D6 rfl rfl rfl) (fun hc => S1 rfl (A6 rfl hc) B5) ?_
 refine H2 rfl (fun hc => G8 rfl (A6 rfl hc) (O5 rfl hc)) ?_
 refine A1 rfl (P9 rfl (A0 rfl) (F1 rfl)) ?_
 refine B4 rfl ?_
 refine A4 ?_
 refine C2 ?_
 exact G1 rfl (B8 rfl (by first | rfl | (refine congrArg AV.bool ?_; simp_all; done)))
theorem idxB_ext (s : Str) (c : UInt8) : ESpec Tryz.prog 241 [AV.str s, AV.byte c] (AV.int (idxB s c)) := espec_mk fun R w vs h => by
  obtain ⟨v, u, rfl, h1, h2⟩ := denV_two h
  have e1 : v = .string ⟨s.toArray⟩ := h1
  have e2 : u = .int .u8 c.toNat := h2
  subst e1; subst e2
  refine ⟨.int .i64 (idxB s c), ?_, rfl⟩
  rw [run_callFunc_indexByte Tryz.func241 (by kernel_rfl) (by kernel_rfl) (by kernel_rfl) (by kernel_rfl), run_indexByte_string]
  simp [idxB]
theorem Ax7 (s : Str) (c : UInt8) : FSpec Tryz.prog 226 [AV.str s, AV.byte c] (AV.int (idxB s c)) := by
 refine D8 Tryz.func226 rfl Tryz.ntmps226 rfl ?_
 refine A3 (A2 ?_)
 refine A1 rfl (B3 rfl B5) ?_
 refine A4 (A3 (A2 ?_))
 refine A5 rfl ?_
 refine A5 rfl ?_
 refine A1 rfl (w_ext rfl rfl (idxB_ext _ _) (A8 (A0 rfl) (A8 (A0 rfl) C6))) ?_
 refine B4 rfl ?_
 refine A4 ?_
 refine C2 ?_
 exact G1 rfl (B8 rfl (by first | rfl | (refine congrArg AV.bool ?_; simp_all; done)))
theorem BC0 (s : Str) (c : UInt8) : FSpec Tryz.prog 209 [AV.str s, AV.byte c] (AV.int (idxB s c)) := by
 refine D8 Tryz.func209 rfl Tryz.ntmps209 rfl ?_
 refine A3 (A2 ?_)
 refine A1 rfl (B3 rfl B5) ?_
 refine A4 (A3 (A2 ?_))
 refine A5 rfl ?_
 refine A5 rfl ?_
 refine A1 rfl (D7 rfl Tryz.call226 rfl (Ax7 _ _) (A8 (A0 rfl) (A8 (A0 rfl) C6))) ?_
 refine B4 rfl ?_
 refine A4 ?_
 refine C2 ?_
 exact G1 rfl (B8 rfl (by first | rfl | (refine congrArg AV.bool ?_; simp_all; done)))
theorem Ad8 (s o : Str) (hs : s.length ≤ 4611686018427387904) : FSpec Tryz.prog 166 [AV.str s, AV.str o] (AV.bool (hasB s o)) := by
 refine D8 Tryz.func166 rfl Tryz.ntmps166 rfl ?_
 refine A3 (A2 ?_)
 refine A1 rfl (B3 rfl F0) ?_
 refine A4 (A3 (A3 (A2 ?_)))
 refine A5 rfl ?_
 refine A1 rfl (x4 rfl K9 (A0 rfl)) ?_
 refine A1 rfl (B7 rfl B5) ?_
 refine A4 (D0 ?_)
 refine H4 [(0, _), (1, _), (7, _)] _ (fun (i : Nat) => i ≤ s.length ∧ hasB s o = hasB (s.drop i) o) (fun (i : Nat) => []) (fun (i : Nat) => [(8, AV.int i)]) (fun (i : Nat) => s.length - i) (0) ?_ (H8 ⟨rfl, rfl, rfl, rfl, trivial⟩) ?_
 ·exact ⟨Nat.zero_le _, rfl⟩
 intro i hinv
 refine A3 (A2 ?_)
 refine A1 rfl (I4 rfl (A0 rfl) (A0 rfl)) ?_
 refine A4 (A3 ?_)
 refine C3 (A0 rfl) ?_ ?_
 ·intro h9
  have k9 := of_decide_eq_true h9; try simp only [A9] at k9
  have hlt : i < s.length := by have := of_decide_eq_true h9; omega
  obtain ⟨c, hc⟩ := get_some hlt
  refine C8 (A3 (D0 (A3 (A2 ?_))))
  refine A5 rfl ?_
  refine B4 rfl ?_
  refine A4 (A3 (A2 ?_))
  refine A5 rfl ?_
  refine A5 rfl ?_
  refine A1 rfl (q6 rfl K9 (A0 rfl) (A0 rfl) (by first | omega | (simp only [D1, A7, szR] at *; omega)) (by assumption)) ?_
  refine A1 rfl (D7 rfl Tryz.call208 rfl (Ar1 _) (A8 (A0 rfl) C6)) ?_
  refine A1 rfl (K3 rfl (A0 rfl)) ?_
  refine A5 rfl ?_
  refine C4 rfl (fun hc => B7 rfl (A0 rfl)) ?_
  refine C4 rfl (fun hc => B7 rfl (A0 rfl)) ?_
  refine C4 rfl (fun hc => B7 rfl (A0 rfl)) ?_
  refine C4 rfl (fun hc => q6 rfl K9 (A6 rfl hc) (A6 rfl hc) (by first | omega | ((try simp only [D1, A7, szR] at *); omega) | (have hc2 := hc; simp only [M7, beq_iff_eq, bne_iff_ne, A9, E6] at hc2; omega)) (by assumption)) ?_
  refine C4 rfl (fun hc => D7 rfl Tryz.call209 rfl (BC0 _ _) (A8 (A6 rfl hc) (A8 (A6 rfl hc) C6))) ?_
  refine C4 rfl (fun hc => I4 rfl (A6 rfl hc) B5) ?_
  refine A1 rfl (G8 rfl (A0 rfl) (F1 rfl)) ?_
  refine A4 ?_
  refine C3 (A0 rfl) ?_ ?_
  ·intro h23
   have hfin : hasB s o = false := by rw [hinv.2, drop_some hc, Ac2, h23]; rfl
   refine A3 (A2 ?_)
   refine A1 rfl (B3 rfl F0) ?_
   refine A4 ?_
   refine C2 ?_
   exact G1 rfl (B8 rfl (by first | exact congrArg AV.bool hfin.symm | exact congrArg AV.bool (by rw [hinv.2, List.drop_eq_nil_of_le hge]; rfl)))
  intro h23
  refine C8 (A2 ?_)
  refine A1 rfl (F6 rfl (A0 rfl) B5 (by first | omega | (simp only [D1, A7, szR] at *; omega))) ?_
  refine A5 rfl ?_
  refine A4 ?_
  refine J3 i (i + 1) ?_ ?_ (H8 ⟨rfl, rfl, rfl, rfl, trivial⟩)
  ·exact ⟨by omega, by rw [hinv.2, drop_some hc, Ac2, h23]; rfl⟩
  omega
 intro h9
 have k9 := of_decide_eq_false h9; try simp only [A9] at k9
 have hge : s.length ≤ i := by have := of_decide_eq_false h9; omega
 refine G0 ?_
 refine A3 (A2 ?_)
 refine A1 rfl (B3 rfl F0) ?_
 refine A4 ?_
 refine C2 ?_
 exact G1 rfl (B8 rfl (by first | exact congrArg AV.bool hfin.symm | exact congrArg AV.bool (by rw [hinv.2, List.drop_eq_nil_of_le hge]; rfl)))
theorem AL0 (s o : Str) (hs : s.length ≤ 4611686018427387904) (ho : o.length ≤ 4611686018427387904) : FSpec Tryz.prog 223 [AV.str s, AV.str o] (AV.bool (l3Bytes s o)) := by
 refine D8 Tryz.func223 rfl Tryz.ntmps223 rfl ?_
 refine A3 (A2 ?_)
 refine A1 rfl (B3 rfl F0) ?_
 refine A4 (A3 (A3 (A2 ?_)))
 refine A1 rfl (B3 rfl B5) ?_
 refine A4 (D0 ?_)
 refine H4 [(0, _), (1, _)] _ (fun (i : Nat) => i ≤ s.length ∧ l3Bytes s o = l3Bytes (s.drop i) o) (fun (i : Nat) => []) (fun (i : Nat) => [(5, AV.int i)]) (fun (i : Nat) => s.length - i) (0) ?_ (H8 ⟨rfl, rfl, rfl, trivial⟩) ?_
 ·exact ⟨Nat.zero_le _, rfl⟩
 intro i hinv
 have hinv0 := hinv; clear hinv
 refine A3 (A3 (A2 ?_))
 refine A5 rfl ?_
 refine A5 rfl ?_
 refine A1 rfl (x4 rfl K9 (A0 rfl)) ?_
 refine A1 rfl (I4 rfl (A0 rfl) (A0 rfl)) ?_
 refine A4 ?_
 refine C3 (A0 rfl) ?_ ?_
 ·intro h11
  have k11 := of_decide_eq_true h11; try simp only [A9] at k11
  have hlt : i < s.length := by have := of_decide_eq_true h11; omega
  obtain ⟨c, hc⟩ := get_some hlt
  refine C8 (A3 (D0 (A3 (A2 ?_))))
  refine A5 rfl ?_
  refine A5 rfl ?_
  refine A1 rfl (q6 rfl K9 (A0 rfl) (A0 rfl) (by first | omega | (simp only [D1, A7, szR] at *; omega)) (by assumption)) ?_
  refine A1 rfl (V3 rfl (A0 rfl) B5) ?_
  refine A5 rfl ?_
  refine C4 rfl (fun hc => B7 rfl (A0 rfl)) ?_
  refine C4 rfl (fun hc => B7 rfl (A0 rfl)) ?_
  refine C4 rfl (fun hc => q6 rfl K9 (A6 rfl hc) (A6 rfl hc) (by first | omega | ((try simp only [D1, A7, szR] at *); omega) | (have hc2 := hc; simp only [M7, beq_iff_eq, bne_iff_ne, A9, E6] at hc2; omega)) (by assumption)) ?_
  refine C4 rfl (fun hc => S1 rfl (A6 rfl hc) B5) ?_
  refine A1 rfl (G8 rfl (A0 rfl) (F1 rfl)) ?_
  refine A5 rfl ?_
  refine H2 rfl (fun hc => B7 rfl (A0 rfl)) ?_
  refine H2 rfl (fun hc => B7 rfl (A0 rfl)) ?_
  refine H2 rfl (fun hc => q6 rfl K9 (A6 rfl hc) (A6 rfl hc) (by first | omega | ((try simp only [D1, A7, szR] at *); omega) | (have hc2 := hc; simp only [M7, beq_iff_eq, bne_iff_ne, A9, E6] at hc2; omega)) (by assumption)) ?_
  refine H2 rfl (fun hc => V3 rfl (A6 rfl hc) B5) ?_
  refine H2 rfl (fun hc => B7 rfl (A6 rfl hc)) ?_
  refine H6 rfl rfl (D6 rfl rfl rfl) (fun hc => B7 rfl (A0 rfl)) ?_
  refine H6 rfl rfl (D6 rfl rfl rfl) (fun hc => B7 rfl (A0 rfl)) ?_
  refine H6 rfl rfl (D6 rfl rfl rfl) (fun hc => q6 rfl K9 (A6 rfl hc) (A6 rfl hc) (by first | omega | ((try simp only [D1, A7, szR] at *); omega) | (have hc2 := hc; simp only [M7, beq_iff_eq, bne_iff_ne, A9, E6] at hc2; omega)) (by assumption)) ?_
  refine H6 rfl rfl (D6 rfl rfl rfl) (fun hc => S1 rfl (A6 rfl hc) B5) ?_
  refine H2 rfl (fun hc => G8 rfl (A6 rfl hc) (O5 rfl hc)) ?_
  refine A1 rfl (P9 rfl (A0 rfl) (F1 rfl)) ?_
  refine B4 rfl ?_
  refine A4 (A3 (A3 (A2 ?_)))
  refine A1 rfl (B3 rfl B5) ?_
  refine A4 (D0 ?_)
  refine P5 [(0, _), (1, _), (5, _), (8, _), (9, _), (10, _), (11, _), (14, _), (15, _), (16, _), (17, _), (18, _), (23, _), (24, _), (35, _)] _ (fun (k : Nat) (b : Bool) => k ≤ o.length ∧ (lowDig c || o.any fun d => ((c.toNat : Int) == (d.toNat : Int))) = (b || (o.drop k).any fun d => ((c.toNat : Int) == (d.toNat : Int)))) (fun (k : Nat) (b : Bool) => []) (fun (k : Nat) (b : Bool) => [(6, AV.bool b), (7, AV.int k)]) (fun (k : Nat) (b : Bool) => o.length - k) (0) (lowDig c) ?_ (H8 ⟨rfl, rfl, rfl, rfl, rfl, rfl, rfl, rfl, rfl, rfl, rfl, rfl, rfl, rfl, rfl, rfl, rfl, trivial⟩) ?_
  ·exact ⟨Nat.zero_le _, rfl⟩
  intro k b hinv
  refine A3 (A3 (A2 ?_))
  refine A5 rfl ?_
  refine A5 rfl ?_
  refine A1 rfl (x4 rfl K9 (A0 rfl)) ?_
  refine A1 rfl (I4 rfl (A0 rfl) (A0 rfl)) ?_
  refine A4 ?_
  refine C3 (A0 rfl) ?_ ?_
  ·intro h39
   have k39 := of_decide_eq_true h39; try simp only [A9] at k39
   have hlt2 : k < o.length := by have := of_decide_eq_true h39; omega
   obtain ⟨d, hd⟩ := get_some hlt2
   refine C8 (A3 (D0 ?_))
   refine I3 (by kernel_rfl) (by kernel_rfl) rfl ?_
   refine B1 rfl rfl (B7 rfl (A0 rfl)) ?_
   refine B1 rfl rfl (B7 rfl (A0 rfl)) ?_
   refine C5 rfl (G2 rfl rfl rfl) (fun hc => B7 rfl (A0 rfl)) ?_
   refine C5 rfl (G2 rfl rfl rfl) (fun hc => B7 rfl (A0 rfl)) ?_
   refine C5 rfl (G2 rfl rfl rfl) (fun hc => q6 rfl K9 (A6 rfl hc) (A6 rfl hc) (by first | omega | ((try simp only [D1, A7, szR] at *); omega) | (have hc2 := hc; simp only [M7, beq_iff_eq, bne_iff_ne, A9, E6] at hc2; omega)) (by assumption)) ?_
   refine C5 rfl (G2 rfl rfl rfl) (fun hc => B7 rfl (A0 rfl)) ?_
   refine C5 rfl (G2 rfl rfl rfl) (fun hc => B7 rfl (A0 rfl)) ?_
   refine C5 rfl (G2 rfl rfl rfl) (fun hc => q6 rfl K9 (A6 rfl hc) (A6 rfl hc) (by first | omega | ((try simp only [D1, A7, szR] at *); omega) | (have hc2 := hc; simp only [M7, beq_iff_eq, bne_iff_ne, A9, E6] at hc2; omega)) (by assumption)) ?_
   refine C5 rfl (G2 rfl rfl rfl) (fun hc => R6 rfl (A6 rfl hc) (A6 rfl hc)) ?_
   refine B1 rfl rfl (P9 rfl (A0 rfl) (F1 rfl)) ?_
   refine B1 rfl rfl (B3 rfl (A0 rfl)) ?_
   refine P0 ?_
   refine A2 ?_
   refine A5 rfl ?_
   refine A1 rfl (F6 rfl (A0 rfl) B5 (by first | omega | (simp only [D1, A7, szR] at *; omega))) ?_
   refine B4 rfl ?_
   refine A4 ?_
   refine M2 k b (k + 1) ((b || ((c.toNat : Int) == (d.toNat : Int)))) ?_ ?_ (H8 ⟨rfl, rfl, rfl, rfl, rfl, rfl, rfl, rfl, rfl, rfl, rfl, rfl, rfl, rfl, rfl, rfl, rfl, trivial⟩)
   ·exact ⟨by omega, by rw [hinv.2, drop_some hd, List.any_cons, Bool.or_assoc]⟩
   omega
  intro h39
  have k39 := of_decide_eq_false h39; try simp only [A9] at k39
  have hge2 : o.length ≤ k := by have := of_decide_eq_false h39; omega
  have hg : (lowDig c || o.any fun d => ((c.toNat : Int) == (d.toNat : Int))) = b := by rw [hinv.2, List.drop_eq_nil_of_le hge2]; simp
  refine G0 ?_
  refine A3 (A2 ?_)
  refine A5 rfl ?_
  refine A1 rfl (K3 rfl (A0 rfl)) ?_
  refine A4 ?_
  refine C3 (A0 rfl) ?_ ?_
  ·intro h53
   have hfin : l3Bytes s o = false := by rw [hinv0.2, drop_some hc, AJ8, hg]; cases b <;> simp_all
   refine A3 (A2 ?_)
   refine A1 rfl (B3 rfl F0) ?_
   refine A4 ?_
   refine C2 ?_
   exact G1 rfl (B8 rfl (by first | exact congrArg AV.bool hfin.symm | exact congrArg AV.bool (by rw [hinv0.2, List.drop_eq_nil_of_le hge]; rfl)))
  intro h53
  have hb : b = true := by cases b <;> simp_all
  refine C8 (A2 ?_)
  refine A5 rfl ?_
  refine A1 rfl (F6 rfl (A0 rfl) B5 (by first | omega | (simp only [D1, A7, szR] at *; omega))) ?_
  refine B4 rfl ?_
  refine A4 ?_
  refine J3 i (i + 1) ?_ ?_ (H8 ⟨rfl, rfl, rfl, trivial⟩)
  ·exact ⟨by omega, by rw [hinv0.2, drop_some hc, AJ8, hg, hb]; rfl⟩
  omega
 intro h11
 have k11 := of_decide_eq_false h11; try simp only [A9] at k11
 have hge : s.length ≤ i := by have := of_decide_eq_false h11; omega
 refine G0 ?_
 refine A3 (A2 ?_)
 refine A1 rfl (B3 rfl F0) ?_
 refine A4 ?_
 refine C2 ?_
 exact G1 rfl (B8 rfl (by first | exact congrArg AV.bool hfin.symm | exact congrArg AV.bool (by rw [hinv0.2, List.drop_eq_nil_of_le hge]; rfl)))
theorem AL1 (s : Str) (hs : s.length ≤ 4611686018427387904) : FSpec Tryz.prog 112 [AV.str s] (AV.bool (goodKey s)) := by
 refine D8 Tryz.func112 rfl Tryz.ntmps112 rfl ?_
 refine A3 (A2 ?_)
 refine A1 rfl (B3 rfl F0) ?_
 refine A4 (A3 (A2 ?_))
 refine A5 rfl ?_
 refine A1 rfl (x4 rfl K9 (A0 rfl)) ?_
 refine A1 rfl (D7 rfl Tryz.call82 rfl (U8 _ _ _) (A8 (A0 rfl) (A8 B5 (A8 B5 C6)))) ?_
 refine A5 rfl ?_
 refine C4 rfl (fun hc => B7 rfl (A0 rfl)) ?_
 refine C4 rfl (fun hc => D7 rfl Tryz.call166 rfl (Ad8 _ _ (by omega)) (A8 (A6 rfl hc) (A8 (e8 (l := [46, 47]) rfl) C6))) ?_
 refine A1 rfl (G8 rfl (A0 rfl) (F1 rfl)) ?_
 refine B4 rfl ?_
 refine A4 ?_
 refine C2 ?_
 exact G1 rfl (B8 rfl (by first | rfl | (refine congrArg AV.bool ?_; simp_all; done)))
theorem Al4 (s : Str) (hs : s.length ≤ 4611686018427387904) : FSpec Tryz.prog 167 [AV.str s] (AV.bool (goodVal s)) := by
 refine D8 Tryz.func167 rfl Tryz.ntmps167 rfl ?_
 refine A3 (A2 ?_)
 refine A1 rfl (B3 rfl F0) ?_
 refine A4 (A3 (A2 ?_))
 refine A5 rfl ?_
 refine A1 rfl (x4 rfl K9 (A0 rfl)) ?_
 refine A1 rfl (S1 rfl (A0 rfl) B5) ?_
 refine A5 rfl ?_
 refine C4 rfl (fun hc => B7 rfl (A0 rfl)) ?_
 refine C4 rfl (fun hc => D7 rfl Tryz.call166 rfl (Ad8 _ _ (by omega)) (A8 (A6 rfl hc) (A8 (e8 (l := [46, 45, 44, 95]) rfl) C6))) ?_
 refine A1 rfl (G8 rfl (A0 rfl) (F1 rfl)) ?_
 refine B4 rfl ?_
 refine A4 ?_
 refine C2 ?_
 exact G1 rfl (B8 rfl (by first | rfl | (refine congrArg AV.bool ?_; simp_all; done)))
theorem AG9 (s : Str) (hs : s.length ≤ 4611686018427387904) : FSpec Tryz.prog 198 [AV.str s] (AV.bool (l3Key s)) := by
 refine D8 Tryz.func198 rfl Tryz.ntmps198 rfl ?_
 refine A3 (A2 ?_)
 refine A1 rfl (B3 rfl F0) ?_
 refine A4 (A3 (A2 ?_))
 refine A5 rfl ?_
 refine A1 rfl (x4 rfl K9 (A0 rfl)) ?_
 refine A1 rfl (D7 rfl Tryz.call39 rfl (R9 _ _ _) (A8 (A0 rfl) (A8 B5 (A8 B5 C6)))) ?_
 refine A5 rfl ?_
 refine C4 rfl (fun hc => B7 rfl (A0 rfl)) ?_
 refine C4 rfl (fun hc => D7 rfl Tryz.call223 rfl (AL0 _ _ (by omega) (by decide)) (A8 (A6 rfl hc) (A8 (e8 (l := [46, 47]) rfl) C6))) ?_
 refine A1 rfl (G8 rfl (A0 rfl) (F1 rfl)) ?_
 refine B4 rfl ?_
 refine A4 ?_
 refine C2 ?_
 exact G1 rfl (B8 rfl (by first | rfl | (refine congrArg AV.bool ?_; simp_all; done)))
end Go.Proofs.YtkegepoihkhihaaGreat

namespace Go.Proofs.YtkegepoihkhihaaGreat
open Go Go.AV Go.M
attribute [local irreducible] OpW OpA OpS AWP FSpec ESpec RetOk RvDen Le Ev GuardIs
theorem AI9 (l : List TWrite) (pre : TWrite → Prop) (f : TWrite → Bool) (hp : ∀ x ∈ l, pre x) : FSpec Tryz.prog 188 [AV.list 3 (l.map TWrite.cs), AV.fun1 Tryz.prog pre (fun a => AV.agg a.cs) (fun a => AV.bool (f a))] (AV.int (idxFrom f l 0)) := by
 refine D8 Tryz.func188 rfl Tryz.ntmps188 rfl ?_
 refine Q6 (t := 0) rfl fun hl => ?_
 try simp only [A9] at hl
 refine A3 (A2 ?_)
 refine A1 rfl (B3 rfl B5) ?_
 refine A4 (A3 (A3 (A2 ?_)))
 refine A5 rfl ?_
 refine A1 rfl (G5 rfl F7 (A0 rfl)) ?_
 refine A1 rfl (B7 rfl B5) ?_
 refine A4 (D0 ?_)
 refine H4 [(0, _), (1, _), (7, _)] _ (fun (i : Nat) => i ≤ l.length ∧ idxFrom f l 0 = idxFrom f (l.drop i) i) (fun (i : Nat) => []) (fun (i : Nat) => [(8, AV.int i)]) (fun (i : Nat) => l.length - i) (0) ?_ (H8 ⟨rfl, rfl, rfl, rfl, trivial⟩) ?_
 ·exact ⟨Nat.zero_le _, rfl⟩
 intro i hinv
 refine A3 (A2 ?_)
 refine A1 rfl (I4 rfl (A0 rfl) (A0 rfl)) ?_
 refine A4 (A3 ?_)
 refine C3 (A0 rfl) ?_ ?_
 ·intro h9
  have k9 := of_decide_eq_true h9; try simp only [A9] at k9
  have hlt : i < l.length := by omega
  obtain ⟨x, hx⟩ := get_some hlt
  refine C8 (A3 (D0 (A3 (A2 ?_))))
  refine A5 rfl ?_
  refine B4 rfl ?_
  refine A4 (A3 (A2 ?_))
  refine A5 rfl ?_
  refine A5 rfl ?_
  refine A5 rfl ?_
  refine A1 rfl (H5 rfl F7 I2 (A0 rfl) (A0 rfl) hx (by first | omega | (simp only [D1, A7, szR] at *; omega))) ?_
  refine A1 rfl (J0 rfl (A0 rfl) S7 I2) ?_
  refine A1 rfl (AF2 rfl (A0 rfl) x (hp x (G6 hx)) (A0 rfl)) ?_
  refine A4 ?_
  refine C3 (A0 rfl) ?_ ?_
  ·intro h16
   refine A3 (A2 ?_)
   refine A5 rfl ?_
   refine B4 rfl ?_
   refine A4 ?_
   refine C2 ?_
   exact G1 rfl (B8 rfl (by first | exact congrArg AV.int (by rw [hinv.2, drop_some hx, idxFrom, h16]; rfl) | exact congrArg AV.int (by rw [hinv.2, List.drop_eq_nil_of_le hge]; rfl)))
  intro h16
  refine C8 (A2 ?_)
  refine A1 rfl (F6 rfl (A0 rfl) B5 (by first | omega | (simp only [D1, A7, szR] at *; omega))) ?_
  refine A5 rfl ?_
  refine A4 ?_
  refine J3 i (i + 1) ?_ ?_ (H8 ⟨rfl, rfl, rfl, rfl, trivial⟩)
  ·exact ⟨by omega, by rw [hinv.2, drop_some hx, idxFrom, h16]; simp⟩
  omega
 intro h9
 have k9 := of_decide_eq_false h9; try simp only [A9] at k9
 have hge : l.length ≤ i := by omega
 refine G0 ?_
 refine A3 (A2 ?_)
 refine A1 rfl (B3 rfl B5) ?_
 refine A4 ?_
 refine C2 ?_
 exact G1 rfl (B8 rfl (by first | exact congrArg AV.int (by rw [hinv.2, drop_some hx, idxFrom, h16]; rfl) | exact congrArg AV.int (by rw [hinv.2, List.drop_eq_nil_of_le hge]; rfl)))
theorem X8 (l : List TWrite) (pre : TWrite → Prop) (f : TWrite → Bool) (hp : ∀ x ∈ l, pre x) : FSpec Tryz.prog 141 [AV.list 3 (l.map TWrite.cs), AV.fun1 Tryz.prog pre (fun a => AV.agg a.cs) (fun a => AV.bool (f a))] (AV.bool (l.any f)) := by
 refine D8 Tryz.func141 rfl Tryz.ntmps141 rfl ?_
 refine A3 (A2 ?_)
 refine A1 rfl (B3 rfl F0) ?_
 refine A4 (A3 (A2 ?_))
 refine A5 rfl ?_
 refine A5 rfl ?_
 refine A1 rfl (D7 rfl Tryz.call188 rfl (AI9 _ _ _ (by first | (intros; trivial) | assumption | (intros; first | trivial | (simp_all; done)))) (A8 (A0 rfl) (A8 (A0 rfl) C6))) ?_
 refine A1 rfl (V3 rfl (A0 rfl) B5) ?_
 refine B4 rfl ?_
 refine A4 ?_
 refine C2 ?_
 exact G1 rfl (B8 rfl (by exact congrArg AV.bool (Z9 f l 0 (Int.le_refl 0))))
theorem AL2 (l : List THeld) (pre : THeld → Prop) (f : THeld → Bool) (hp : ∀ x ∈ l, pre x) : FSpec Tryz.prog 186 [AV.list 5 (l.map THeld.cs), AV.fun1 Tryz.prog pre (fun a => AV.agg a.cs) (fun a => AV.bool (f a))] (AV.int (idxFrom f l 0)) := by
 refine D8 Tryz.func186 rfl Tryz.ntmps186 rfl ?_
 refine Q6 (t := 0) rfl fun hl => ?_
 try simp only [A9] at hl
 refine A3 (A2 ?_)
 refine A1 rfl (B3 rfl B5) ?_
 refine A4 (A3 (A3 (A2 ?_)))
 refine A5 rfl ?_
 refine A1 rfl (G5 rfl E4 (A0 rfl)) ?_
 refine A1 rfl (B7 rfl B5) ?_
 refine A4 (D0 ?_)
 refine H4 [(0, _), (1, _), (7, _)] _ (fun (i : Nat) => i ≤ l.length ∧ idxFrom f l 0 = idxFrom f (l.drop i) i) (fun (i : Nat) => []) (fun (i : Nat) => [(8, AV.int i)]) (fun (i : Nat) => l.length - i) (0) ?_ (H8 ⟨rfl, rfl, rfl, rfl, trivial⟩) ?_
 ·exact ⟨Nat.zero_le _, rfl⟩
 intro i hinv
 refine A3 (A2 ?_)
 refine A1 rfl (I4 rfl (A0 rfl) (A0 rfl)) ?_
 refine A4 (A3 ?_)
 refine C3 (A0 rfl) ?_ ?_
 ·intro h9
  have k9 := of_decide_eq_true h9; try simp only [A9] at k9
  have hlt : i < l.length := by omega
  obtain ⟨x, hx⟩ := get_some hlt
  refine C8 (A3 (D0 (A3 (A2 ?_))))
  refine A5 rfl ?_
  refine B4 rfl ?_
  refine A4 (A3 (A2 ?_))
  refine A5 rfl ?_
  refine A5 rfl ?_
  refine A5 rfl ?_
  refine A1 rfl (H5 rfl E4 D9 (A0 rfl) (A0 rfl) hx (by first | omega | (simp only [D1, A7, szR] at *; omega))) ?_
  refine A1 rfl (J0 rfl (A0 rfl) J9 D9) ?_
  refine A1 rfl (AF2 rfl (A0 rfl) x (hp x (G6 hx)) (A0 rfl)) ?_
  refine A4 ?_
  refine C3 (A0 rfl) ?_ ?_
  ·intro h16
   refine A3 (A2 ?_)
   refine A5 rfl ?_
   refine B4 rfl ?_
   refine A4 ?_
   refine C2 ?_
   exact G1 rfl (B8 rfl (by first | exact congrArg AV.int (by rw [hinv.2, drop_some hx, idxFrom, h16]; rfl) | exact congrArg AV.int (by rw [hinv.2, List.drop_eq_nil_of_le hge]; rfl)))
  intro h16
  refine C8 (A2 ?_)
  refine A1 rfl (F6 rfl (A0 rfl) B5 (by first | omega | (simp only [D1, A7, szR] at *; omega))) ?_
  refine A5 rfl ?_
  refine A4 ?_
  refine J3 i (i + 1) ?_ ?_ (H8 ⟨rfl, rfl, rfl, rfl, trivial⟩)
  ·exact ⟨by omega, by rw [hinv.2, drop_some hx, idxFrom, h16]; simp⟩
  omega
 intro h9
 have k9 := of_decide_eq_false h9; try simp only [A9] at k9
 have hge : l.length ≤ i := by omega
 refine G0 ?_
 refine A3 (A2 ?_)
 refine A1 rfl (B3 rfl B5) ?_
 refine A4 ?_
 refine C2 ?_
 exact G1 rfl (B8 rfl (by first | exact congrArg AV.int (by rw [hinv.2, drop_some hx, idxFrom, h16]; rfl) | exact congrArg AV.int (by rw [hinv.2, List.drop_eq_nil_of_le hge]; rfl)))
theorem AD9 (l : List THeld) (pre : THeld → Prop) (f : THeld → Bool) (hp : ∀ x ∈ l, pre x) : FSpec Tryz.prog 138 [AV.list 5 (l.map THeld.cs), AV.fun1 Tryz.prog pre (fun a => AV.agg a.cs) (fun a => AV.bool (f a))] (AV.bool (l.any f)) := by
 refine D8 Tryz.func138 rfl Tryz.ntmps138 rfl ?_
 refine A3 (A2 ?_)
 refine A1 rfl (B3 rfl F0) ?_
 refine A4 (A3 (A2 ?_))
 refine A5 rfl ?_
 refine A5 rfl ?_
 refine A1 rfl (D7 rfl Tryz.call186 rfl (AL2 _ _ _ (by first | (intros; trivial) | assumption | (intros; first | trivial | (simp_all; done)))) (A8 (A0 rfl) (A8 (A0 rfl) C6))) ?_
 refine A1 rfl (V3 rfl (A0 rfl) B5) ?_
 refine B4 rfl ?_
 refine A4 ?_
 refine C2 ?_
 exact G1 rfl (B8 rfl (by exact congrArg AV.bool (Z9 f l 0 (Int.le_refl 0))))
theorem AJ0 (l : List TState) (pre : TState → Prop) (f : TState → Bool) (hp : ∀ x ∈ l, pre x) : FSpec Tryz.prog 129 [AV.list 4 (l.map TState.cs), AV.fun1 Tryz.prog pre (fun a => AV.agg a.cs) (fun a => AV.bool (f a))] (AV.int (idxFrom f l 0)) := by
 refine D8 Tryz.func129 rfl Tryz.ntmps129 rfl ?_
 refine Q6 (t := 0) rfl fun hl => ?_
 try simp only [A9] at hl
 refine A3 (A2 ?_)
 refine A1 rfl (B3 rfl B5) ?_
 refine A4 (A3 (A3 (A2 ?_)))
 refine A5 rfl ?_
 refine A1 rfl (G5 rfl M1 (A0 rfl)) ?_
 refine A1 rfl (B7 rfl B5) ?_
 refine A4 (D0 ?_)
 refine H4 [(0, _), (1, _), (7, _)] _ (fun (i : Nat) => i ≤ l.length ∧ idxFrom f l 0 = idxFrom f (l.drop i) i) (fun (i : Nat) => []) (fun (i : Nat) => [(8, AV.int i)]) (fun (i : Nat) => l.length - i) (0) ?_ (H8 ⟨rfl, rfl, rfl, rfl, trivial⟩) ?_
 ·exact ⟨Nat.zero_le _, rfl⟩
 intro i hinv
 refine A3 (A2 ?_)
 refine A1 rfl (I4 rfl (A0 rfl) (A0 rfl)) ?_
 refine A4 (A3 ?_)
 refine C3 (A0 rfl) ?_ ?_
 ·intro h9
  have k9 := of_decide_eq_true h9; try simp only [A9] at k9
  have hlt : i < l.length := by omega
  obtain ⟨x, hx⟩ := get_some hlt
  refine C8 (A3 (D0 (A3 (A2 ?_))))
  refine A5 rfl ?_
  refine B4 rfl ?_
  refine A4 (A3 (A2 ?_))
  refine A5 rfl ?_
  refine A5 rfl ?_
  refine A5 rfl ?_
  refine A1 rfl (H5 rfl M1 E1 (A0 rfl) (A0 rfl) hx (by first | omega | (simp only [D1, A7, szR] at *; omega))) ?_
  refine A1 rfl (J0 rfl (A0 rfl) G7 E1) ?_
  refine A1 rfl (AF2 rfl (A0 rfl) x (hp x (G6 hx)) (A0 rfl)) ?_
  refine A4 ?_
  refine C3 (A0 rfl) ?_ ?_
  ·intro h16
   refine A3 (A2 ?_)
   refine A5 rfl ?_
   refine B4 rfl ?_
   refine A4 ?_
   refine C2 ?_
   exact G1 rfl (B8 rfl (by first | exact congrArg AV.int (by rw [hinv.2, drop_some hx, idxFrom, h16]; rfl) | exact congrArg AV.int (by rw [hinv.2, List.drop_eq_nil_of_le hge]; rfl)))
  intro h16
  refine C8 (A2 ?_)
  refine A1 rfl (F6 rfl (A0 rfl) B5 (by first | omega | (simp only [D1, A7, szR] at *; omega))) ?_
  refine A5 rfl ?_
  refine A4 ?_
  refine J3 i (i + 1) ?_ ?_ (H8 ⟨rfl, rfl, rfl, rfl, trivial⟩)
  ·exact ⟨by omega, by rw [hinv.2, drop_some hx, idxFrom, h16]; simp⟩
  omega
 intro h9
 have k9 := of_decide_eq_false h9; try simp only [A9] at k9
 have hge : l.length ≤ i := by omega
 refine G0 ?_
 refine A3 (A2 ?_)
 refine A1 rfl (B3 rfl B5) ?_
 refine A4 ?_
 refine C2 ?_
 exact G1 rfl (B8 rfl (by first | exact congrArg AV.int (by rw [hinv.2, drop_some hx, idxFrom, h16]; rfl) | exact congrArg AV.int (by rw [hinv.2, List.drop_eq_nil_of_le hge]; rfl)))
theorem AC3 (l : List TState) (pre : TState → Prop) (f : TState → Bool) (hp : ∀ x ∈ l, pre x) : FSpec Tryz.prog 83 [AV.list 4 (l.map TState.cs), AV.fun1 Tryz.prog pre (fun a => AV.agg a.cs) (fun a => AV.bool (f a))] (AV.bool (l.any f)) := by
 refine D8 Tryz.func83 rfl Tryz.ntmps83 rfl ?_
 refine A3 (A2 ?_)
 refine A1 rfl (B3 rfl F0) ?_
 refine A4 (A3 (A2 ?_))
 refine A5 rfl ?_
 refine A5 rfl ?_
 refine A1 rfl (D7 rfl Tryz.call129 rfl (AJ0 _ _ _ (by first | (intros; trivial) | assumption | (intros; first | trivial | (simp_all; done)))) (A8 (A0 rfl) (A8 (A0 rfl) C6))) ?_
 refine A1 rfl (V3 rfl (A0 rfl) B5) ?_
 refine B4 rfl ?_
 refine A4 ?_
 refine C2 ?_
 exact G1 rfl (B8 rfl (by exact congrArg AV.bool (Z9 f l 0 (Int.le_refl 0))))
theorem AC4 (l : List TFeedItem) (pre : TFeedItem → Prop) (f : TFeedItem → Bool) (hp : ∀ x ∈ l, pre x) : FSpec Tryz.prog 110 [AV.list 5 (l.map TFeedItem.cs), AV.fun1 Tryz.prog pre (fun a => AV.agg a.cs) (fun a => AV.bool (f a))] (AV.int (idxFrom f l 0)) := by
 refine D8 Tryz.func110 rfl Tryz.ntmps110 rfl ?_
 refine Q6 (t := 0) rfl fun hl => ?_
 try simp only [A9] at hl
 refine A3 (A2 ?_)
 refine A1 rfl (B3 rfl B5) ?_
 refine A4 (A3 (A3 (A2 ?_)))
 refine A5 rfl ?_
 refine A1 rfl (G5 rfl E7 (A0 rfl)) ?_
 refine A1 rfl (B7 rfl B5) ?_
 refine A4 (D0 ?_)
 refine H4 [(0, _), (1, _), (7, _)] _ (fun (i : Nat) => i ≤ l.length ∧ idxFrom f l 0 = idxFrom f (l.drop i) i) (fun (i : Nat) => []) (fun (i : Nat) => [(8, AV.int i)]) (fun (i : Nat) => l.length - i) (0) ?_ (H8 ⟨rfl, rfl, rfl, rfl, trivial⟩) ?_
 ·exact ⟨Nat.zero_le _, rfl⟩
 intro i hinv
 refine A3 (A2 ?_)
 refine A1 rfl (I4 rfl (A0 rfl) (A0 rfl)) ?_
 refine A4 (A3 ?_)
 refine C3 (A0 rfl) ?_ ?_
 ·intro h9
  have k9 := of_decide_eq_true h9; try simp only [A9] at k9
  have hlt : i < l.length := by omega
  obtain ⟨x, hx⟩ := get_some hlt
  refine C8 (A3 (D0 (A3 (A2 ?_))))
  refine A5 rfl ?_
  refine B4 rfl ?_
  refine A4 (A3 (A2 ?_))
  refine A5 rfl ?_
  refine A5 rfl ?_
  refine A5 rfl ?_
  refine A1 rfl (H5 rfl E7 G3 (A0 rfl) (A0 rfl) hx (by first | omega | (simp only [D1, A7, szR] at *; omega))) ?_
  refine A1 rfl (J0 rfl (A0 rfl) P6 G3) ?_
  refine A1 rfl (AF2 rfl (A0 rfl) x (hp x (G6 hx)) (A0 rfl)) ?_
  refine A4 ?_
  refine C3 (A0 rfl) ?_ ?_
  ·intro h16
   refine A3 (A2 ?_)
   refine A5 rfl ?_
   refine B4 rfl ?_
   refine A4 ?_
   refine C2 ?_
   exact G1 rfl (B8 rfl (by first | exact congrArg AV.int (by rw [hinv.2, drop_some hx, idxFrom, h16]; rfl) | exact congrArg AV.int (by rw [hinv.2, List.drop_eq_nil_of_le hge]; rfl)))
  intro h16
  refine C8 (A2 ?_)
  refine A1 rfl (F6 rfl (A0 rfl) B5 (by first | omega | (simp only [D1, A7, szR] at *; omega))) ?_
  refine A5 rfl ?_
  refine A4 ?_
  refine J3 i (i + 1) ?_ ?_ (H8 ⟨rfl, rfl, rfl, rfl, trivial⟩)
  ·exact ⟨by omega, by rw [hinv.2, drop_some hx, idxFrom, h16]; simp⟩
  omega
 intro h9
 have k9 := of_decide_eq_false h9; try simp only [A9] at k9
 have hge : l.length ≤ i := by omega
 refine G0 ?_
 refine A3 (A2 ?_)
 refine A1 rfl (B3 rfl B5) ?_
 refine A4 ?_
 refine C2 ?_
 exact G1 rfl (B8 rfl (by first | exact congrArg AV.int (by rw [hinv.2, drop_some hx, idxFrom, h16]; rfl) | exact congrArg AV.int (by rw [hinv.2, List.drop_eq_nil_of_le hge]; rfl)))
theorem u5 (l : List TFeedItem) (pre : TFeedItem → Prop) (f : TFeedItem → Bool) (hp : ∀ x ∈ l, pre x) : FSpec Tryz.prog 70 [AV.list 5 (l.map TFeedItem.cs), AV.fun1 Tryz.prog pre (fun a => AV.agg a.cs) (fun a => AV.bool (f a))] (AV.bool (l.any f)) := by
 refine D8 Tryz.func70 rfl Tryz.ntmps70 rfl ?_
 refine A3 (A2 ?_)
 refine A1 rfl (B3 rfl F0) ?_
 refine A4 (A3 (A2 ?_))
 refine A5 rfl ?_
 refine A5 rfl ?_
 refine A1 rfl (D7 rfl Tryz.call110 rfl (AC4 _ _ _ (by first | (intros; trivial) | assumption | (intros; first | trivial | (simp_all; done)))) (A8 (A0 rfl) (A8 (A0 rfl) C6))) ?_
 refine A1 rfl (V3 rfl (A0 rfl) B5) ?_
 refine B4 rfl ?_
 refine A4 ?_
 refine C2 ?_
 exact G1 rfl (B8 rfl (by exact congrArg AV.bool (Z9 f l 0 (Int.le_refl 0))))
theorem AC5 (l : List TWrite) (v : Str) (pre : TWrite → Str → Prop) (hp : ∀ x ∈ l, pre x v) (f : TWrite → Str → Int) (hl2 : l.length ≤ 4611686018427387903) : FSpec Tryz.prog 229 [AV.list 3 (l.map TWrite.cs), AV.str v, AV.fun2 Tryz.prog pre (fun a => AV.agg a.cs) (fun b => AV.str b) (fun a b => AV.int (f a b))] (AV.tup [AV.int (bs (fun x => f x v) l 0 l.length), AV.bool (bsAt (fun x => f x v) l (bs (fun x => f x v) l 0 l.length))]) := by
 refine D8 Tryz.func229 rfl Tryz.ntmps229 rfl ?_
 refine Q6 (t := 0) rfl fun hl => ?_
 try simp only [A9] at hl
 refine A3 (A2 ?_)
 refine A1 rfl (B3 rfl B5) ?_
 refine A1 rfl (B3 rfl F0) ?_
 refine A4 (A3 (A2 ?_))
 refine A5 rfl ?_
 refine A1 rfl (G5 rfl F7 (A0 rfl)) ?_
 refine B4 rfl ?_
 refine A4 (A3 (A2 ?_))
 refine A5 rfl ?_
 refine A1 rfl (B3 rfl B5) ?_
 refine B4 rfl ?_
 refine A4 (A3 (D0 ?_))
 refine P5 [(0, _), (1, _), (2, _), (6, _), (7, _), (8, _)] _ (fun (i : Nat) (j : Nat) => i ≤ j ∧ j ≤ l.length ∧ bs (fun x => f x v) l 0 l.length = bs (fun x => f x v) l i j) (fun (i : Nat) (j : Nat) => []) (fun (i : Nat) (j : Nat) => [(9, AV.int i), (10, AV.int j)]) (fun (i : Nat) (j : Nat) => j - i) (0) ((l.map TWrite.cs).length) ?_ (H8 ⟨rfl, rfl, rfl, rfl, rfl, rfl, rfl, rfl, trivial⟩) ?_
 ·exact ⟨Nat.zero_le _, by simp, by simp⟩
 intro i j hinv
 refine A3 (A3 (A2 ?_))
 refine A5 rfl ?_
 refine A5 rfl ?_
 refine A1 rfl (I4 rfl (A0 rfl) (A0 rfl)) ?_
 refine A4 ?_
 refine C3 (A0 rfl) ?_ ?_
 ·intro h17
  have k17 := of_decide_eq_true h17; try simp only [A9] at k17
  have hlt : i < j := by omega
  obtain ⟨x, hx⟩ := get_some (show (i + j) / 2 < l.length by omega)
  refine C8 (D0 (A3 (A2 ?_)))
  refine A5 rfl ?_
  refine A5 rfl ?_
  refine A1 rfl (F6 rfl (A0 rfl) (A0 rfl) (by omega)) ?_
  refine A1 rfl (w9 rfl (by kernel_rfl) Tryz.underlying158 (A0 rfl)) ?_
  refine A1 rfl (w_shr rfl (A0 rfl) B5 (by decide) (by decide)) ?_
  refine A1 rfl (w9 rfl (by kernel_rfl) Q7 (A0 rfl)) ?_
  refine B4 rfl ?_
  refine A4 (A3 (A2 ?_))
  rw [AZ0 (by omega)]
  refine A5 rfl ?_
  refine A5 rfl ?_
  refine A5 rfl ?_
  refine A1 rfl (H5 rfl F7 I2 (A0 rfl) (A0 rfl) hx (by first | omega | (simp only [D1, A7, szR] at *; omega))) ?_
  refine A1 rfl (J0 rfl (A0 rfl) S7 I2) ?_
  refine A5 rfl ?_
  refine A1 rfl (n0 rfl (A0 rfl) x v (hp x (G6 hx)) (A0 rfl) (A0 rfl)) ?_
  refine A1 rfl (I4 rfl (A0 rfl) B5) ?_
  refine A4 ?_
  refine C3 (A0 rfl) ?_ ?_
  ·intro h31
   have k31 := of_decide_eq_true h31; try simp only [A9] at k31
   refine A2 ?_
   refine A5 rfl ?_
   refine A1 rfl (F6 rfl (A0 rfl) B5 (by first | omega | (simp only [D1, A7, szR] at *; omega))) ?_
   refine B4 rfl ?_
   refine A4 ?_
   refine c0 ?_
   refine M2 i j ((i + j) / 2 + 1) (j) ?_ ?_ (H8 ⟨rfl, rfl, rfl, rfl, rfl, rfl, rfl, rfl, trivial⟩)
   ·exact ⟨by omega, by omega, by rw [hinv.2.2, Ai5 hlt hx k31]⟩
   omega
  intro h31
  have k31 := of_decide_eq_false h31; try simp only [A9] at k31
  refine A2 ?_
  refine A5 rfl ?_
  refine B4 rfl ?_
  refine A4 ?_
  refine c0 ?_
  refine M2 i j (i) ((i + j) / 2) ?_ ?_ (H8 ⟨rfl, rfl, rfl, rfl, rfl, rfl, rfl, rfl, trivial⟩)
  ·exact ⟨by omega, by omega, by rw [hinv.2.2, Ai6 hlt hx k31]⟩
  omega
 intro h17
 have k17 := of_decide_eq_false h17; try simp only [A9] at k17
 have hge : bs (fun x => f x v) l 0 l.length = i := by rw [hinv.2.2, AV2 (by omega)]
 obtain ⟨y, hy⟩ := w5 l i
 refine G0 ?_
 refine A3 (A2 ?_)
 refine A5 rfl ?_
 refine A5 rfl ?_
 refine A5 rfl ?_
 refine A1 rfl (I4 rfl (A0 rfl) (A0 rfl)) ?_
 refine A5 rfl ?_
 refine C4 rfl (fun hc => B7 rfl (A0 rfl)) ?_
 refine C4 rfl (fun hc => B7 rfl (A0 rfl)) ?_
 refine C4 rfl (fun hc => B7 rfl (A0 rfl)) ?_
 refine C4 rfl (fun hc => H5 rfl F7 I2 (A6 rfl hc) (A6 rfl hc) (hy (by first | omega | ((try simp only [D1, A7, szR] at *); omega) | (have hc2 := hc; simp only [M7, beq_iff_eq, bne_iff_ne, A9, E6] at hc2; omega))) rfl) ?_
 refine C4 rfl (fun hc => J0 rfl (A6 rfl hc) S7 I2) ?_
 refine C4 rfl (fun hc => B7 rfl (A0 rfl)) ?_
 refine C4 rfl (fun hc => n0 rfl (A6 rfl hc) y v (hp y (G6 (hy (by first | omega | ((try simp only [D1, A7, szR] at *); omega) | (have hc2 := hc; simp only [M7, beq_iff_eq, bne_iff_ne, A9, E6] at hc2; omega))))) (A6 rfl hc) (A6 rfl hc)) ?_
 refine C4 rfl (fun hc => R6 rfl (A6 rfl hc) B5) ?_
 refine A1 rfl (G8 rfl (A0 rfl) (F1 rfl)) ?_
 refine B4 rfl ?_
 refine B4 rfl ?_
 refine A4 ?_
 refine C2 ?_
 exact T7 rfl (by decide) (F2 (B8 rfl (by first | exact congrArg AV.int (by rw [hge]) | exact congrArg AV.bool (by rw [hge]; unfold bsAt; simp only [A9]; cases Nat.lt_or_ge i l.length with | inl hi => (rw [hy hi]; simp [hi]) | inr hi => (rw [List.getElem?_eq_none (by omega)]; simp only [decide_eq_false (show ¬ ((i : Int) < (l.length : Int)) by omega), Bool.false_and])))) (F2 (B8 rfl (by first | exact congrArg AV.int (by rw [hge]) | exact congrArg AV.bool (by rw [hge]; unfold bsAt; simp only [A9]; cases Nat.lt_or_ge i l.length with | inl hi => (rw [hy hi]; simp [hi]) | inr hi => (rw [List.getElem?_eq_none (by omega)]; simp only [decide_eq_false (show ¬ ((i : Int) < (l.length : Int)) by omega), Bool.false_and])))) L5))
theorem AE0 (l : List TCell) (v : Str) (pre : TCell → Str → Prop) (hp : ∀ x ∈ l, pre x v) (f : TCell → Str → Int) (hl2 : l.length ≤ 4611686018427387903) : FSpec Tryz.prog 172 [AV.list 2 (l.map TCell.cs), AV.str v, AV.fun2 Tryz.prog pre (fun a => AV.agg a.cs) (fun b => AV.str b) (fun a b => AV.int (f a b))] (AV.tup [AV.int (bs (fun x => f x v) l 0 l.length), AV.bool (bsAt (fun x => f x v) l (bs (fun x => f x v) l 0 l.length))]) := by
 refine D8 Tryz.func172 rfl Tryz.ntmps172 rfl ?_
 refine Q6 (t := 0) rfl fun hl => ?_
 try simp only [A9] at hl
 refine A3 (A2 ?_)
 refine A1 rfl (B3 rfl B5) ?_
 refine A1 rfl (B3 rfl F0) ?_
 refine A4 (A3 (A2 ?_))
 refine A5 rfl ?_
 refine A1 rfl (G5 rfl E2 (A0 rfl)) ?_
 refine B4 rfl ?_
 refine A4 (A3 (A2 ?_))
 refine A5 rfl ?_
 refine A1 rfl (B3 rfl B5) ?_
 refine B4 rfl ?_
 refine A4 (A3 (D0 ?_))
 refine P5 [(0, _), (1, _), (2, _), (6, _), (7, _), (8, _)] _ (fun (i : Nat) (j : Nat) => i ≤ j ∧ j ≤ l.length ∧ bs (fun x => f x v) l 0 l.length = bs (fun x => f x v) l i j) (fun (i : Nat) (j : Nat) => []) (fun (i : Nat) (j : Nat) => [(9, AV.int i), (10, AV.int j)]) (fun (i : Nat) (j : Nat) => j - i) (0) ((l.map TCell.cs).length) ?_ (H8 ⟨rfl, rfl, rfl, rfl, rfl, rfl, rfl, rfl, trivial⟩) ?_
 ·exact ⟨Nat.zero_le _, by simp, by simp⟩
 intro i j hinv
 refine A3 (A3 (A2 ?_))
 refine A5 rfl ?_
 refine A5 rfl ?_
 refine A1 rfl (I4 rfl (A0 rfl) (A0 rfl)) ?_
 refine A4 ?_
 refine C3 (A0 rfl) ?_ ?_
 ·intro h17
  have k17 := of_decide_eq_true h17; try simp only [A9] at k17
  have hlt : i < j := by omega
  obtain ⟨x, hx⟩ := get_some (show (i + j) / 2 < l.length by omega)
  refine C8 (D0 (A3 (A2 ?_)))
  refine A5 rfl ?_
  refine A5 rfl ?_
  refine A1 rfl (F6 rfl (A0 rfl) (A0 rfl) (by omega)) ?_
  refine A1 rfl (w9 rfl (by kernel_rfl) Tryz.underlying158 (A0 rfl)) ?_
  refine A1 rfl (w_shr rfl (A0 rfl) B5 (by decide) (by decide)) ?_
  refine A1 rfl (w9 rfl (by kernel_rfl) Q7 (A0 rfl)) ?_
  refine B4 rfl ?_
  refine A4 (A3 (A2 ?_))
  rw [AZ0 (by omega)]
  refine A5 rfl ?_
  refine A5 rfl ?_
  refine A5 rfl ?_
  refine A1 rfl (H5 rfl E2 F3 (A0 rfl) (A0 rfl) hx (by first | omega | (simp only [D1, A7, szR] at *; omega))) ?_
  refine A1 rfl (J0 rfl (A0 rfl) R5 F3) ?_
  refine A5 rfl ?_
  refine A1 rfl (n0 rfl (A0 rfl) x v (hp x (G6 hx)) (A0 rfl) (A0 rfl)) ?_
  refine A1 rfl (I4 rfl (A0 rfl) B5) ?_
  refine A4 ?_
  refine C3 (A0 rfl) ?_ ?_
  ·intro h31
   have k31 := of_decide_eq_true h31; try simp only [A9] at k31
   refine A2 ?_
   refine A5 rfl ?_
   refine A1 rfl (F6 rfl (A0 rfl) B5 (by first | omega | (simp only [D1, A7, szR] at *; omega))) ?_
   refine B4 rfl ?_
   refine A4 ?_
   refine c0 ?_
   refine M2 i j ((i + j) / 2 + 1) (j) ?_ ?_ (H8 ⟨rfl, rfl, rfl, rfl, rfl, rfl, rfl, rfl, trivial⟩)
   ·exact ⟨by omega, by omega, by rw [hinv.2.2, Ai5 hlt hx k31]⟩
   omega
  intro h31
  have k31 := of_decide_eq_false h31; try simp only [A9] at k31
  refine A2 ?_
  refine A5 rfl ?_
  refine B4 rfl ?_
  refine A4 ?_
  refine c0 ?_
  refine M2 i j (i) ((i + j) / 2) ?_ ?_ (H8 ⟨rfl, rfl, rfl, rfl, rfl, rfl, rfl, rfl, trivial⟩)
  ·exact ⟨by omega, by omega, by rw [hinv.2.2, Ai6 hlt hx k31]⟩
  omega
 intro h17
 have k17 := of_decide_eq_false h17; try simp only [A9] at k17
 have hge : bs (fun x => f x v) l 0 l.length = i := by rw [hinv.2.2, AV2 (by omega)]
 obtain ⟨y, hy⟩ := w5 l i
 refine G0 ?_
 refine A3 (A2 ?_)
 refine A5 rfl ?_
 refine A5 rfl ?_
 refine A5 rfl ?_
 refine A1 rfl (I4 rfl (A0 rfl) (A0 rfl)) ?_
 refine A5 rfl ?_
 refine C4 rfl (fun hc => B7 rfl (A0 rfl)) ?_
 refine C4 rfl (fun hc => B7 rfl (A0 rfl)) ?_
 refine C4 rfl (fun hc => B7 rfl (A0 rfl)) ?_
 refine C4 rfl (fun hc => H5 rfl E2 F3 (A6 rfl hc) (A6 rfl hc) (hy (by first | omega | ((try simp only [D1, A7, szR] at *); omega) | (have hc2 := hc; simp only [M7, beq_iff_eq, bne_iff_ne, A9, E6] at hc2; omega))) rfl) ?_
 refine C4 rfl (fun hc => J0 rfl (A6 rfl hc) R5 F3) ?_
 refine C4 rfl (fun hc => B7 rfl (A0 rfl)) ?_
 refine C4 rfl (fun hc => n0 rfl (A6 rfl hc) y v (hp y (G6 (hy (by first | omega | ((try simp only [D1, A7, szR] at *); omega) | (have hc2 := hc; simp only [M7, beq_iff_eq, bne_iff_ne, A9, E6] at hc2; omega))))) (A6 rfl hc) (A6 rfl hc)) ?_
 refine C4 rfl (fun hc => R6 rfl (A6 rfl hc) B5) ?_
 refine A1 rfl (G8 rfl (A0 rfl) (F1 rfl)) ?_
 refine B4 rfl ?_
 refine B4 rfl ?_
 refine A4 ?_
 refine C2 ?_
 exact T7 rfl (by decide) (F2 (B8 rfl (by first | exact congrArg AV.int (by rw [hge]) | exact congrArg AV.bool (by rw [hge]; unfold bsAt; simp only [A9]; cases Nat.lt_or_ge i l.length with | inl hi => (rw [hy hi]; simp [hi]) | inr hi => (rw [List.getElem?_eq_none (by omega)]; simp only [decide_eq_false (show ¬ ((i : Int) < (l.length : Int)) by omega), Bool.false_and])))) (F2 (B8 rfl (by first | exact congrArg AV.int (by rw [hge]) | exact congrArg AV.bool (by rw [hge]; unfold bsAt; simp only [A9]; cases Nat.lt_or_ge i l.length with | inl hi => (rw [hy hi]; simp [hi]) | inr hi => (rw [List.getElem?_eq_none (by omega)]; simp only [decide_eq_false (show ¬ ((i : Int) < (l.length : Int)) by omega), Bool.false_and])))) L5))
theorem AE1 (l : List THeld) (v : Int) (pre : THeld → Int → Prop) (hp : ∀ x ∈ l, pre x v) (f : THeld → Int → Int) (hl2 : l.length ≤ 4611686018427387903) : FSpec Tryz.prog 144 [AV.list 5 (l.map THeld.cs), AV.int v, AV.fun2 Tryz.prog pre (fun a => AV.agg a.cs) (fun b => AV.int b) (fun a b => AV.int (f a b))] (AV.tup [AV.int (bs (fun x => f x v) l 0 l.length), AV.bool (bsAt (fun x => f x v) l (bs (fun x => f x v) l 0 l.length))]) := by
 refine D8 Tryz.func144 rfl Tryz.ntmps144 rfl ?_
 refine Q6 (t := 0) rfl fun hl => ?_
 try simp only [A9] at hl
 refine A3 (A2 ?_)
 refine A1 rfl (B3 rfl B5) ?_
 refine A1 rfl (B3 rfl F0) ?_
 refine A4 (A3 (A2 ?_))
 refine A5 rfl ?_
 refine A1 rfl (G5 rfl E4 (A0 rfl)) ?_
 refine B4 rfl ?_
 refine A4 (A3 (A2 ?_))
 refine A5 rfl ?_
 refine A1 rfl (B3 rfl B5) ?_
 refine B4 rfl ?_
 refine A4 (A3 (D0 ?_))
 refine P5 [(0, _), (1, _), (2, _), (6, _), (7, _), (8, _)] _ (fun (i : Nat) (j : Nat) => i ≤ j ∧ j ≤ l.length ∧ bs (fun x => f x v) l 0 l.length = bs (fun x => f x v) l i j) (fun (i : Nat) (j : Nat) => []) (fun (i : Nat) (j : Nat) => [(9, AV.int i), (10, AV.int j)]) (fun (i : Nat) (j : Nat) => j - i) (0) ((l.map THeld.cs).length) ?_ (H8 ⟨rfl, rfl, rfl, rfl, rfl, rfl, rfl, rfl, trivial⟩) ?_
 ·exact ⟨Nat.zero_le _, by simp, by simp⟩
 intro i j hinv
 refine A3 (A3 (A2 ?_))
 refine A5 rfl ?_
 refine A5 rfl ?_
 refine A1 rfl (I4 rfl (A0 rfl) (A0 rfl)) ?_
 refine A4 ?_
 refine C3 (A0 rfl) ?_ ?_
 ·intro h17
  have k17 := of_decide_eq_true h17; try simp only [A9] at k17
  have hlt : i < j := by omega
  obtain ⟨x, hx⟩ := get_some (show (i + j) / 2 < l.length by omega)
  refine C8 (D0 (A3 (A2 ?_)))
  refine A5 rfl ?_
  refine A5 rfl ?_
  refine A1 rfl (F6 rfl (A0 rfl) (A0 rfl) (by omega)) ?_
  refine A1 rfl (w9 rfl (by kernel_rfl) Tryz.underlying158 (A0 rfl)) ?_
  refine A1 rfl (w_shr rfl (A0 rfl) B5 (by decide) (by decide)) ?_
  refine A1 rfl (w9 rfl (by kernel_rfl) Q7 (A0 rfl)) ?_
  refine B4 rfl ?_
  refine A4 (A3 (A2 ?_))
  rw [AZ0 (by omega)]
  refine A5 rfl ?_
  refine A5 rfl ?_
  refine A5 rfl ?_
  refine A1 rfl (H5 rfl E4 D9 (A0 rfl) (A0 rfl) hx (by first | omega | (simp only [D1, A7, szR] at *; omega))) ?_
  refine A1 rfl (J0 rfl (A0 rfl) J9 D9) ?_
  refine A5 rfl ?_
  refine A1 rfl (n0 rfl (A0 rfl) x v (hp x (G6 hx)) (A0 rfl) (A0 rfl)) ?_
  refine A1 rfl (I4 rfl (A0 rfl) B5) ?_
  refine A4 ?_
  refine C3 (A0 rfl) ?_ ?_
  ·intro h31
   have k31 := of_decide_eq_true h31; try simp only [A9] at k31
   refine A2 ?_
   refine A5 rfl ?_
   refine A1 rfl (F6 rfl (A0 rfl) B5 (by first | omega | (simp only [D1, A7, szR] at *; omega))) ?_
   refine B4 rfl ?_
   refine A4 ?_
   refine c0 ?_
   refine M2 i j ((i + j) / 2 + 1) (j) ?_ ?_ (H8 ⟨rfl, rfl, rfl, rfl, rfl, rfl, rfl, rfl, trivial⟩)
   ·exact ⟨by omega, by omega, by rw [hinv.2.2, Ai5 hlt hx k31]⟩
   omega
  intro h31
  have k31 := of_decide_eq_false h31; try simp only [A9] at k31
  refine A2 ?_
  refine A5 rfl ?_
  refine B4 rfl ?_
  refine A4 ?_
  refine c0 ?_
  refine M2 i j (i) ((i + j) / 2) ?_ ?_ (H8 ⟨rfl, rfl, rfl, rfl, rfl, rfl, rfl, rfl, trivial⟩)
  ·exact ⟨by omega, by omega, by rw [hinv.2.2, Ai6 hlt hx k31]⟩
  omega
 intro h17
 have k17 := of_decide_eq_false h17; try simp only [A9] at k17
 have hge : bs (fun x => f x v) l 0 l.length = i := by rw [hinv.2.2, AV2 (by omega)]
 obtain ⟨y, hy⟩ := w5 l i
 refine G0 ?_
 refine A3 (A2 ?_)
 refine A5 rfl ?_
 refine A5 rfl ?_
 refine A5 rfl ?_
 refine A1 rfl (I4 rfl (A0 rfl) (A0 rfl)) ?_
 refine A5 rfl ?_
 refine C4 rfl (fun hc => B7 rfl (A0 rfl)) ?_
 refine C4 rfl (fun hc => B7 rfl (A0 rfl)) ?_
 refine C4 rfl (fun hc => B7 rfl (A0 rfl)) ?_
 refine C4 rfl (fun hc => H5 rfl E4 D9 (A6 rfl hc) (A6 rfl hc) (hy (by first | omega | ((try simp only [D1, A7, szR] at *); omega) | (have hc2 := hc; simp only [M7, beq_iff_eq, bne_iff_ne, A9, E6] at hc2; omega))) rfl) ?_
 refine C4 rfl (fun hc => J0 rfl (A6 rfl hc) J9 D9) ?_
 refine C4 rfl (fun hc => B7 rfl (A0 rfl)) ?_
 refine C4 rfl (fun hc => n0 rfl (A6 rfl hc) y v (hp y (G6 (hy (by first | omega | ((try simp only [D1, A7, szR] at *); omega) | (have hc2 := hc; simp only [M7, beq_iff_eq, bne_iff_ne, A9, E6] at hc2; omega))))) (A6 rfl hc) (A6 rfl hc)) ?_
 refine C4 rfl (fun hc => R6 rfl (A6 rfl hc) B5) ?_
 refine A1 rfl (G8 rfl (A0 rfl) (F1 rfl)) ?_
 refine B4 rfl ?_
 refine B4 rfl ?_
 refine A4 ?_
 refine C2 ?_
 exact T7 rfl (by decide) (F2 (B8 rfl (by first | exact congrArg AV.int (by rw [hge]) | exact congrArg AV.bool (by rw [hge]; unfold bsAt; simp only [A9]; cases Nat.lt_or_ge i l.length with | inl hi => (rw [hy hi]; simp [hi]) | inr hi => (rw [List.getElem?_eq_none (by omega)]; simp only [decide_eq_false (show ¬ ((i : Int) < (l.length : Int)) by omega), Bool.false_and])))) (F2 (B8 rfl (by first | exact congrArg AV.int (by rw [hge]) | exact congrArg AV.bool (by rw [hge]; unfold bsAt; simp only [A9]; cases Nat.lt_or_ge i l.length with | inl hi => (rw [hy hi]; simp [hi]) | inr hi => (rw [List.getElem?_eq_none (by omega)]; simp only [decide_eq_false (show ¬ ((i : Int) < (l.length : Int)) by omega), Bool.false_and])))) L5))
theorem AS8 (l : List Str) (v : Str) : FSpec Tryz.prog 231 [strs l, AV.str v] (AV.int (idxFrom (fun x => v == x) l 0)) := by
 refine D8 Tryz.func231 rfl Tryz.ntmps231 rfl ?_
 refine Q6 (t := 0) rfl fun hl => ?_
 try simp only [A9] at hl
 refine A3 (A2 ?_)
 refine A1 rfl (B3 rfl B5) ?_
 refine A4 (A3 (A3 (A2 ?_)))
 refine A5 rfl ?_
 refine A1 rfl (G5 rfl E5 (A0 rfl)) ?_
 refine A1 rfl (B7 rfl B5) ?_
 refine A4 (D0 ?_)
 refine H4 [(0, _), (1, _), (7, _)] _ (fun (i : Nat) => i ≤ l.length ∧ idxFrom (fun x => v == x) l 0 = idxFrom (fun x => v == x) (l.drop i) i) (fun (i : Nat) => []) (fun (i : Nat) => [(8, AV.int i)]) (fun (i : Nat) => l.length - i) (0) ?_ (H8 ⟨rfl, rfl, rfl, rfl, trivial⟩) ?_
 ·exact ⟨Nat.zero_le _, rfl⟩
 intro i hinv
 refine A3 (A2 ?_)
 refine A1 rfl (I4 rfl (A0 rfl) (A0 rfl)) ?_
 refine A4 (A3 ?_)
 refine C3 (A0 rfl) ?_ ?_
 ·intro h9
  have k9 := of_decide_eq_true h9; try simp only [A9] at k9
  have hlt : i < l.length := by omega
  obtain ⟨x, hx⟩ := get_some hlt
  refine C8 (A3 (D0 (A3 (A2 ?_))))
  refine A5 rfl ?_
  refine B4 rfl ?_
  refine A4 (A3 (A2 ?_))
  refine A5 rfl ?_
  refine A5 rfl ?_
  refine A5 rfl ?_
  refine A1 rfl (H5 rfl E5 E3 (A0 rfl) (A0 rfl) hx (by first | omega | (simp only [D1, A7, szR] at *; omega))) ?_
  refine A1 rfl (L3 rfl (A0 rfl) F5 rfl) ?_
  refine A1 rfl (p8 rfl (A0 rfl) (A0 rfl)) ?_
  refine A4 ?_
  refine C3 (A0 rfl) ?_ ?_
  ·intro h16
   refine A3 (A2 ?_)
   refine A5 rfl ?_
   refine B4 rfl ?_
   refine A4 ?_
   refine C2 ?_
   exact G1 rfl (B8 rfl (by first | exact congrArg AV.int (by rw [hinv.2, drop_some hx, idxFrom, h16]; rfl) | exact congrArg AV.int (by rw [hinv.2, List.drop_eq_nil_of_le hge]; rfl)))
  intro h16
  refine C8 (A2 ?_)
  refine A1 rfl (F6 rfl (A0 rfl) B5 (by first | omega | (simp only [D1, A7, szR] at *; omega))) ?_
  refine A5 rfl ?_
  refine A4 ?_
  refine J3 i (i + 1) ?_ ?_ (H8 ⟨rfl, rfl, rfl, rfl, trivial⟩)
  ·exact ⟨by omega, by rw [hinv.2, drop_some hx, idxFrom, h16]; simp⟩
  omega
 intro h9
 have k9 := of_decide_eq_false h9; try simp only [A9] at k9
 have hge : l.length ≤ i := by omega
 refine G0 ?_
 refine A3 (A2 ?_)
 refine A1 rfl (B3 rfl B5) ?_
 refine A4 ?_
 refine C2 ?_
 exact G1 rfl (B8 rfl (by first | exact congrArg AV.int (by rw [hinv.2, drop_some hx, idxFrom, h16]; rfl) | exact congrArg AV.int (by rw [hinv.2, List.drop_eq_nil_of_le hge]; rfl)))
theorem AJ1 (l : List Str) (v : Str) : FSpec Tryz.prog 220 [strs l, AV.str v] (AV.bool (l.any fun x => v == x)) := by
 refine D8 Tryz.func220 rfl Tryz.ntmps220 rfl ?_
 refine A3 (A2 ?_)
 refine A1 rfl (B3 rfl F0) ?_
 refine A4 (A3 (A2 ?_))
 refine A5 rfl ?_
 refine A5 rfl ?_
 refine A1 rfl (D7 rfl Tryz.call231 rfl (AS8 _ _) (A8 (A0 rfl) (A8 (A0 rfl) C6))) ?_
 refine A1 rfl (V3 rfl (A0 rfl) B5) ?_
 refine B4 rfl ?_
 refine A4 ?_
 refine C2 ?_
 exact G1 rfl (B8 rfl (by exact congrArg AV.bool (Z9 (fun x => v == x) l 0 (Int.le_refl 0))))
end Go.Proofs.YtkegepoihkhihaaGreat
