/- Texts of the claim, part 4. -/
import Derived.Test.YtcfkbhnpfjjmjaaGreatRows
import Derived.Sort.OwnSortedInts
import Derived.Sort.EncStr
import Derived.Shelf.GgSortFunc.RowK
import Derived.Shelf.Sort.Plain
import Derived.Shelf.Slices.In.SortNone
import Derived.Test.YtcfkbhnpfjjmjaaGreatProg
import Derived.Test.YtcfkbhnpfjjmjaaGreatZSeen3
set_option linter.unusedVariables false
set_option linter.unusedSimpArgs false
set_option maxRecDepth 100000
set_option maxHeartbeats 4000000
namespace Go.Proofs.YtcfkbhnpfjjmjaaGreat
open Go Go.AV Go.M
attribute [local irreducible] OpW OpA OpS AWP B9 J2 C9 OpE RetOk H0 I6 Le Ev F1 J8
theorem big_spec (code more : List Int) : B9 Tryz.prog 5 [AN9 code, AN9 more] (AV.bool (bigB code more)) := by
 refine B7 Tryz.func5 rfl Tryz.ntmps5 rfl ?_
 refine S1 (t := 0) rfl fun hl0 => ?_
 try simp only [A5] at hl0
 refine S1 (t := 1) rfl fun hl1 => ?_
 try simp only [A5] at hl1
 refine R14 ?_
 refine U1 rfl (fun hc => Bd9 rfl D8 (B1 rfl hc) f6) ?_
 refine R5 ?_
 exact D4 rfl (A8 rfl (by (refine congrArg AV.bool ?_; unfold bigB; simp only [A5])))
end Go.Proofs.YtcfkbhnpfjjmjaaGreat
namespace Go.Proofs.YtcfkbhnpfjjmjaaGreat
open Go Go.AV Go.M
attribute [local irreducible] OpW OpA OpS AWP B9 J2 C9 OpE RetOk H0 I6 Le Ev F1 J8 Int.tmod Int.tdiv IntKind.wrap bandI
end Go.Proofs.YtcfkbhnpfjjmjaaGreat
namespace Go.Proofs.YtcfkbhnpfjjmjaaGreat
open Go Go.AV Go.M
attribute [local irreducible] OpW OpA OpS AWP B9 J2 C9 OpE RetOk H0 I6 Le Ev F1 J8 Int.tmod Int.tdiv IntKind.wrap
theorem AD9 (t : Int) : B9 Tryz.prog 239 [AV.int t] (AV.bool (within t 1 100000)) := by
  refine B7 Tryz.func239 rfl Tryz.ntmps239 rfl ?_
  refine R7 ?_
  refine A4 rfl (B2 rfl Tryz.call30 rfl (M9 _ _ _) (A1 (A0 rfl) (A1 D8 (A1 D8 A7)))) ?_
  refine R3 ?_
  exact D4 rfl (A8 rfl V1)
theorem CI4 {r : L1} (hs : r.size ≤ 1048576) : (∀ k ∈ r.Reads, k.length ≤ 4611686018427387904) ∧ sizeL A9.size r.Writes ≤ 1048576 ∧ r.Reads.length ≤ 1048576 ∧ r.Writes.length ≤ 1048576 := by
  unfold L1.size at hs
  have h1 := L3 (f := fun x : Str => x.length) (l := r.Reads)
  have h2 := L3 (f := A9.size) (l := r.Writes)
  exact ⟨fun k hk => by have := AZ5 (f := fun x : Str => x.length) hk; omega, by omega, by omega, by omega⟩
theorem Bp2 (l : List Str) (hs : ∀ k ∈ l, k.length ≤ 4611686018427387904) : B9 Tryz.prog 240 [strs l] (AV.bool (l4Keys l)) := by
 refine B7 Tryz.func240 rfl Tryz.ntmps240 rfl ?_
 refine S1 (t := 0) rfl fun hl => ?_
 try simp only [A5] at hl
 refine R12 ?_
 refine E2 [(0, _), (5, _), (6, _)] _ (fun (i : Nat) => i ≤ l.length ∧ (l.all l3Key && adj Op.bytesLess l) = ((l.drop i).all l3Key && adj Op.bytesLess (l.drop (i - 1)))) (fun (i : Nat) => []) (fun (i : Nat) => [(7, AV.int i)]) (fun (i : Nat) => l.length - i) (0) ?_ (E7 ⟨rfl, rfl, rfl, rfl, trivial⟩) ?_
 ·exact ⟨Nat.zero_le _, rfl⟩
 intro i hinv
 refine R5 ?_
 refine A6 (A0 rfl) ?_ ?_
 ·intro h8
  have k8 := of_decide_eq_true h8; try simp only [A5] at k8
  have hlt : i < l.length := by omega
  obtain ⟨x, hx⟩ := get_some hlt
  obtain ⟨y, hy⟩ := get_some (show i - 1 < l.length by omega)
  have hsx := hs x (C4 hx)
  refine R6 ?_
  refine A4 rfl (t3 rfl F9 K3 (A0 rfl) (A0 rfl) qz8 Bc8) ?_
  refine R7 ?_
  refine A4 rfl (B2 rfl Tryz.call99 rfl (AA0 _ qz8) (A1 (A0 rfl) A7)) ?_
  refine R8 ?_
  refine c7 rfl rfl (U6 rfl rfl rfl) (fun hc => t3 rfl F9 K3 (B1 rfl hc) (B1 rfl hc) qz181 qz89) ?_
  refine R2 ?_
  refine c7 rfl rfl (U6 rfl rfl rfl) (fun hc => An7 rfl (B1 rfl hc) (B1 rfl hc)) ?_
  refine R3 ?_
  refine A6 (A0 rfl) ?_ ?_
  ·intro h27
   have hfin : (l.all l3Key && adj Op.bytesLess l) = false := by rw [hinv.2, drop_some hx, List.all_cons]; cases hg : l3Key x with | false => simp | true => (simp only [hg, Bool.not_true, Bool.false_or, Bool.and_eq_true, decide_eq_true_eq, Bool.not_eq_true'] at h27; rw [AJ1 hx hy qz8 h27.2]; simp)
   refine R5 ?_
   exact D4 rfl (A8 rfl qz129)
  intro h27
  refine R5 ?_
  refine E9 i (i + 1) ?_ ?_ (E7 ⟨rfl, rfl, rfl, rfl, trivial⟩)
  ·exact ⟨by omega, by rw [hinv.2, drop_some hx, List.all_cons, AJ0 hx hy (fun h0 => by simp_all), show l3Key x = true by simp_all, Bool.true_and]⟩
  omega
 intro h8
 have k8 := of_decide_eq_false h8; try simp only [A5] at k8
 have hge : l.length ≤ i := by omega
 refine R9 ?_
 exact D4 rfl (A8 rfl qz129)
theorem Ay3 (r : L1) (hs : r.size ≤ 1048576) : B9 Tryz.prog 226 [AV.agg r.cs] (AV.bool (l4Good r)) := by
 obtain ⟨hr1, hr2, hr3, hr4⟩ := CI4 hs
 refine B7 Tryz.func226 rfl Tryz.ntmps226 rfl ?_
 refine R3 ?_
 intro b1
 refine R24 ?_
 refine A6 (A0 rfl) ?_ ?_
 ·intro h20
  have ho : AT2 r = true := by (unfold AT2; simpa using h20)
  refine R5 ?_
  exact D4 rfl (A8 rfl BM8)
 intro h20
 have ho : AT2 r = false := by (unfold AT2; simpa using h20)
 refine R13 ?_
 refine A6 (A0 rfl) ?_ ?_
 ·intro h23
  have k23 := D1 h23; try simp only [A5] at k23
  refine R4 ?_
  refine A4 rfl (B2 rfl Tryz.call30 rfl (M9 _ _ _) (A1 (A0 rfl) (A1 D8 (A1 D8 A7)))) ?_
  refine R3 ?_
  refine L4 rfl (fun hc => B2 rfl Tryz.call239 rfl (AD9 _) (A1 (B1 rfl hc) A7)) ?_
  refine R4 ?_
  refine L4 rfl (fun hc => B2 rfl Tryz.call30 rfl (M9 _ _ _) (A1 (B1 rfl hc) (A1 D8 (A1 D8 A7)))) ?_
  refine R4 ?_
  refine L4 rfl (fun hc => B2 rfl Tryz.call240 rfl (Bp2 r.Reads hr1) (A1 (B1 rfl hc) A7)) ?_
  refine R4 ?_
  refine L4 rfl (fun hc => B2 rfl Tryz.call69 rfl (Am1 r.Writes qz8) (A1 (B1 rfl hc) A7)) ?_
  refine R5 ?_
  refine L4 rfl (fun hc => B2 rfl Tryz.call30 rfl (M9 _ _ _) (A1 (B1 rfl hc) (A1 D8 (A1 D8 A7)))) ?_
  refine R19 ?_
  exact D4 rfl (A8 rfl BM8)
 intro h23
 have k23 := D5 h23; try simp only [A5] at k23
 refine R6 ?_
 refine A6 (A0 rfl) ?_ ?_
 ·intro h69
  have k69 := D1 h69; try simp only [A5] at k69
  refine R1 ?_
  refine A6 (A0 rfl) ?_ ?_
  ·intro h69
   have k69 := D1 h69; try simp only [A5] at k69
   refine R4 ?_
   refine A4 rfl (B2 rfl Tryz.call30 rfl (M9 _ _ _) (A1 (A0 rfl) (A1 D8 (A1 D8 A7)))) ?_
   refine R6 ?_
   refine c7 rfl rfl (U6 rfl rfl rfl) (fun hc => B2 rfl Tryz.call239 rfl (AD9 _) (A1 (B1 rfl hc) A7)) ?_
   refine R15 ?_
   exact D4 rfl (A8 rfl BM8)
  intro h69
  have k69 := D5 h69; try simp only [A5] at k69
  refine R14 ?_
  refine L4 rfl (fun hc => B2 rfl Tryz.call239 rfl (AD9 _) (A1 (B1 rfl hc) A7)) ?_
  refine R9 ?_
  exact D4 rfl (A8 rfl BM8)
 intro h69
 have k69 := D5 h69; try simp only [A5] at k69
 refine R4 ?_
 refine A6 (A0 rfl) ?_ ?_
 ·intro h69
  have k69 := D1 h69; try simp only [A5] at k69
  refine R4 ?_
  refine A4 rfl (B2 rfl Tryz.call30 rfl (M9 _ _ _) (A1 (A0 rfl) (A1 D8 (A1 D8 A7)))) ?_
  refine R6 ?_
  refine c7 rfl rfl (U6 rfl rfl rfl) (fun hc => B2 rfl Tryz.call239 rfl (AD9 _) (A1 (B1 rfl hc) A7)) ?_
  refine R15 ?_
  exact D4 rfl (A8 rfl BM8)
 intro h69
 have k69 := D5 h69; try simp only [A5] at k69
 refine R14 ?_
 refine L4 rfl (fun hc => B2 rfl Tryz.call239 rfl (AD9 _) (A1 (B1 rfl hc) A7)) ?_
 refine R9 ?_
 exact D4 rfl (A8 rfl BM8)
theorem AX4 (r : L1) (hs : r.size ≤ 1048576) : B9 Tryz.prog 207 [AV.agg r.cs] (AV.bool (l4Good r)) := by
  refine B7 Tryz.func207 rfl Tryz.ntmps207 rfl ?_
  refine R3 ?_
  intro b1
  refine R5 ?_
  refine A4 rfl (B2 rfl Tryz.call226 rfl (Ay3 _ Y0) (A1 (A0 rfl) A7)) ?_
  refine R3 ?_
  exact D4 rfl (A8 rfl V1)
end Go.Proofs.YtcfkbhnpfjjmjaaGreat
namespace Go.AV
open Go.Sort
section ordered
variable {P : Program} {f : FuncId} {t : TypeId} {α : Type} [Inhabited α]
end ordered
end Go.AV
namespace Go.Proofs
open Go.Shelf
end Go.Proofs
namespace Go.Proofs.YtcfkbhnpfjjmjaaGreat
open Go Go.AV Go.M
attribute [local irreducible] OpW OpA OpS AWP B9 J2 C9 OpE RetOk H0 I6 Le Ev F1 J8 Int.tmod Int.tdiv IntKind.wrap
theorem BV5 (x y : A9) : (x.Key == y.Key && (x.Val == y.Val && (x.Gone == y.Gone && true))) = decide (x = y) := by
  cases x; cases y
  rw [Bool.eq_iff_iff]
  simp
theorem str_at {l : List Str} {i j : Nat} {s : Str} (h : l[i]? = some s) (hj : j = i * 1) : ((l.map fun s => [AV.str s]).flatten)[j]? = some (AV.str s) := by
  rw [hj, Nat.mul_one]
  have e : (l.map fun s => [AV.str s]).flatten = l.map AV.str := by
    clear h
    induction l with
    | nil => rfl
    | cons x l ih => simp [ih]
  rw [e, List.getElem?_map, h]; rfl
end Go.Proofs.YtcfkbhnpfjjmjaaGreat
namespace Go.M
open Go.AV
theorem BV6 {l : List A9} (h : adj wLess l = true) (k : Str) : wHas l k = hasK l k := by
  have e := findW_eq h k
  cases hw : wHas l k with
  | true =>
    obtain ⟨x, hx, hk⟩ := AO5.1 hw
    exact (m8.2 ⟨x, C4 hx, hk⟩).symm
  | false =>
    rw [hw] at e
    simp only [Bool.false_eq_true, if_false] at e
    unfold findW at e
    rw [List.find?_eq_none] at e
    cases hk : hasK l k with
    | false => rfl
    | true => obtain ⟨x, hx, hxk⟩ := m8.1 hk; have := e x hx; simp [hxk] at this
theorem CA1 {w : List A9} (h : goodWrites w = true) : adj wLess w = true := by
  unfold goodWrites areRising O8 at h
  simp only [Bool.and_eq_true] at h
  have := h.1.2.2
  rw [Av3] at this
  exact this
theorem AK7 {l : List E3} {i : Nat} {h : E3} {n : Nat} (hs : sizeL E3.size l ≤ n) (hx : l[i]? = some h) : h.size ≤ n ∧ sizeL A9.size h.Writes ≤ n ∧ h.Writes.length ≤ n ∧ h.Reads.length ≤ n ∧ (hRec h).size ≤ n := by
  have h1 := Nat.le_trans (W4 hx) hs
  have h2 : h.size = sizeL (fun x => x.length) h.Reads + sizeL A9.size h.Writes := rfl
  have h3 := L3 (f := fun x : Str => x.length) (l := h.Reads)
  have h4 := L3 (f := A9.size) (l := h.Writes)
  have h5 : (hRec h).size = sizeL (fun x => x.length) h.Reads + sizeL A9.size h.Writes := rfl
  exact ⟨by omega, by omega, by omega, by omega, by omega⟩
theorem Bv4 : ∀ {l : List E3}, (hWs l).length ≤ sizeL E3.size l
  | [] => Nat.zero_le _
  | h :: l => by
    have ih := Bv4 (l := l)
    have h4 := L3 (f := A9.size) (l := h.Writes)
    have h2 : h.size = sizeL (fun x => x.length) h.Reads + sizeL A9.size h.Writes := rfl
    rw [BC3, G3, P7]; omega
theorem hWs_take {l : List E3} {i : Nat} {h : E3} (hx : l[i]? = some h) : hWs (l.take (i + 1)) = hWs (l.take i) ++ h.Writes := by
  rw [List.take_add_one, hx, BF9]
  show _ ++ hWs [h] = _
  rw [BC3]; simp [hWs]
theorem Bv5 {α : Type} {f : α → Int} {l : List α} (h : l.Pairwise fun a b => f a < f b) {i j : Nat} {x y : α} (hij : i < j) (hx : l[i]? = some x) (hy : l[j]? = some y) : f x < f y := by
  obtain ⟨i1, i2⟩ := List.getElem?_eq_some_iff.1 hx
  obtain ⟨j1, j2⟩ := List.getElem?_eq_some_iff.1 hy
  have := List.pairwise_iff_getElem.1 h i j i1 j1 hij
  rw [i2, j2] at this; exact this
theorem s6 {s : G2} {n : Nat} (h : s.size ≤ n) : sizeL C5.size s.Cells ≤ n ∧ sizeL E3.size s.Held ≤ n ∧ s.Told.length ≤ n ∧ s.Cells.length ≤ n ∧ s.Held.length ≤ n := by
  have h1 : s.size = sizeL C5.size s.Cells + sizeL E3.size s.Held + s.Told.length := rfl
  have h2 := L3 (f := C5.size) (l := s.Cells)
  have h3 := L3 (f := E3.size) (l := s.Held)
  exact ⟨by omega, by omega, by omega, by omega, by omega⟩
theorem CI5 {s : G2} {i : Nat} {h y : E3} (hx : s.Held[i]? = some h) (hy : s.Held[i - 1]? = some y) : heldAt s i = (!(((!goodRec (hRec h) || decide (s.Floor < h.Time)) || (decide ((0 : Int) < (i : Int)) && decide (h.Txn ≤ y.Txn)))) && (!((s.Held.take i).any fun g => clash h g) && !(h.Writes.any fun w => decide (h.Time ≤ lastTime s.Cells w.Key)))) := by
  unfold heldAt
  rw [hx]
  have h1 : BL2 s.Held i h.Txn = !(decide ((0 : Int) < (i : Int)) && decide (h.Txn ≤ y.Txn)) := by
    unfold BL2; rw [hy]; dsimp only
    congr 2
    rw [decide_eq_decide]; omega
  have h2 : ((s.Held.take i).all fun g => apart g h.Reads h.Writes) = !((s.Held.take i).any fun g => clash h g) := by
    rw [List.not_any_eq_all_not]; congr 1; funext g; rw [Ax8, Bool.not_not]
  have h3 : (h.Writes.all fun w => decide (lastTime s.Cells w.Key < h.Time)) = !(h.Writes.any fun w => decide (h.Time ≤ lastTime s.Cells w.Key)) := by
    rw [List.not_any_eq_all_not]; congr 1; funext w; rw [← decide_not, decide_eq_decide]; omega
  dsimp only
  rw [h1, h2, h3]
  simp only [Bool.not_or, Bool.not_not, Bool.and_assoc]
theorem good_adj {h : E3} (hg : goodRec (hRec h) = true) : adj wLess h.Writes = true := by
  unfold goodRec hRec at hg
  rw [if_pos rfl] at hg
  unfold good1 at hg
  simp only [Bool.and_eq_true] at hg
  exact CA1 hg.1.1.2
theorem CI6 {s : G2} {i : Nat} {t y : M1} (hx : s.Told[i]? = some t) (hy : s.Told[i - 1]? = some y) : toldAt s i = (!((!isTxnR t.Txn || !((t.Yes && within t.Time 1 s.Floor) || (!t.Yes && (t.Time == 0)))) || (decide ((0 : Int) < (i : Int)) && decide (t.Txn ≤ y.Txn))) && !hasH s.Held t.Txn) := by
  unfold toldAt
  rw [hx]
  have h1 : BL3 s.Told i t.Txn = !(decide ((0 : Int) < (i : Int)) && decide (t.Txn ≤ y.Txn)) := by
    unfold BL3; rw [hy]; dsimp only
    congr 2
    rw [decide_eq_decide]; omega
  have h2 : tFits s t = ((t.Yes && within t.Time 1 s.Floor) || (!t.Yes && (t.Time == 0))) := by
    unfold tFits; cases t.Yes <;> simp
  dsimp only
  rw [h1, h2]
  generalize ((t.Yes && within t.Time 1 s.Floor) || (!t.Yes && (t.Time == 0))) = b
  simp only [Bool.not_or, Bool.not_not, Bool.and_assoc]
end Go.M
namespace Go.Proofs.YtcfkbhnpfjjmjaaGreat
open Go Go.AV Go.M
attribute [local irreducible] OpW OpA OpS AWP B9 J2 C9 OpE RetOk H0 I6 Le Ev F1 J8 Int.tmod Int.tdiv IntKind.wrap
end Go.Proofs.YtcfkbhnpfjjmjaaGreat
namespace Go.AV
section
variable {T X : Type} {cs : T → List AV} {ocs : T → X → List AV} {ow : T → X → List Own}
theorem CI7 {l : List T} {xs : List X} {i : Nat} {p : T} {x : X} (hi : i ≤ l.length) (h : xs.length = l.length) : (nrows ocs l xs).take i ++ ocs p x :: (nrows ocs l xs).drop i = nrows ocs (l.take i ++ p :: l.drop i) (xs.take i ++ x :: xs.drop i) := by
  unfold nrows
  rw [List.zipWith_append (by rw [G9, G9]; omega), List.zipWith_cons_cons, List.take_zipWith, List.drop_zipWith]
theorem nin_ins {l : List T} {xs : List X} {i : Nat} {p : T} {x : X} (hi : i ≤ l.length) (h : xs.length = l.length) : (ow p x ++ nin ow l xs).Perm (nin ow (l.take i ++ p :: l.drop i) (xs.take i ++ x :: xs.drop i)) := by
  have e : nin ow l xs = nin ow (l.take i) (xs.take i) ++ nin ow (l.drop i) (xs.drop i) := by
    unfold nin
    rw [← List.flatten_append, ← List.zipWith_append (by rw [G9, G9]; omega), List.take_append_drop, List.take_append_drop]
  have e2 : nin ow (l.take i ++ p :: l.drop i) (xs.take i ++ x :: xs.drop i) = nin ow (l.take i) (xs.take i) ++ (ow p x ++ nin ow (l.drop i) (xs.drop i)) := by
    unfold nin
    rw [List.zipWith_append (by rw [G9, G9]; omega), List.zipWith_cons_cons, List.flatten_append, List.flatten_cons]
  rw [e, e2, ← List.append_assoc, ← List.append_assoc]
  exact List.Perm.append_right _ List.perm_append_comm
theorem Bh9 {X : Type} {xs : List X} {i : Nat} {x : X} (hi : i ≤ xs.length) : (xs.take i ++ x :: xs.drop i).length = xs.length + 1 := by
  rw [G3, H4, G9, List.length_drop]; omega
end
end Go.AV
namespace Go.Proofs.YtcfkbhnpfjjmjaaGreat
open Go Go.AV Go.M
attribute [local irreducible] OpW OpA OpS AWP B9 J2 C9 OpE RetOk H0 I6 Le Ev F1 J8
def C5.ow (c : C5) (x : Value) : List Own := [.arr x 255 3 (c.Vers.map T9.cs)]
theorem C5.lcM {own : List Own} (c : C5) (x : Value) (h : ∀ o ∈ C5.ow c x, o ∈ own) : X9 own (C5.ocs c x) c.cs := D0 H2 (D0 (J5 (h _ (C4 (i := 0) rfl)) F4) U9)
theorem BV7 (l : List C5) (hs : sizeL C5.size l ≤ 4194304) : C9 Tryz.prog 233 [AV.list 2 (l.map C5.cs)] [] (fun x : Value × List Value => x.2.length = l.length) (fun x => .arr x.1 260 2 (nrows C5.ocs l x.2) :: nin C5.ow l x.2) (fun x => AV.is x.1) := by
 have hl : l.length ≤ 4194304 := Nat.le_trans L3 hs
 refine C6 Tryz.func233 rfl Tryz.ntmps233 rfl ?_
 refine R2 ?_
 refine A4 rfl (D6 rfl G8) ?_
 refine R3 ?_
 refine P1 260 2 rfl rfl rfl rfl G8 ?_
 intro v3
 refine R9 ?_
 refine Q4 [(2, _), (6, _), (7, _)] [] (fun (i : Nat) (v : Value) (xs : List Value) => i ≤ l.length ∧ xs.length = i) (fun (i : Nat) (v : Value) (xs : List Value) => [.arr v 260 2 (nrows C5.ocs (l.take i) xs)] ++ (nin C5.ow (l.take i) xs)) (fun (i : Nat) (v : Value) (xs : List Value) => [(3, AV.is v), (8, AV.int i)]) (fun (i : Nat) (v : Value) (xs : List Value) => l.length - i) (0) (v3) ([]) ?_ (H7 B0 ⟨rfl, rfl, rfl, rfl, rfl, trivial⟩) ?_
 ·exact ⟨Nat.zero_le _, rfl⟩
 intro i v xs hinv
 refine I3 (List.append_nil _) ?_
 refine R5 ?_
 refine A6 (A0 rfl) ?_ ?_
 ·intro h9
  have k9 := of_decide_eq_true h9; try simp only [A5] at k9
  have hlt : i < l.length := by omega
  obtain ⟨x, hx⟩ := get_some hlt
  have hsx := AX3 (Nat.le_trans (W4 hx) hs)
  refine R5 ?_
  refine A4 rfl (C7 rfl H5 P2 (A0 rfl) (A0 rfl) hx qz3) ?_
  refine R2 ?_
  intro b5
  refine R2 ?_
  refine M3 _ [(0, false), (1, false), (2, false), (4, false), (5, false), (3, true), (6, true), (7, false), (8, false), (9, true)] F2 F2 rfl (O2 1) ?_
  refine R5 ?_
  refine Q0 rfl rfl rfl (Y2 2 <| Z4 rfl U5 a7) (fun a _ => qz4) ?_
  intro v15 _
  refine Q0 rfl rfl rfl (S3 2 (fun _ => rfl) (J6 (by' := 32) 2 rfl U5 Tryz.type255 rfl rfl rfl rfl rfl rfl (A0 rfl) (A0 rfl) rfl qz3)) (fun a _ => qz4) ?_
  intro v18_1 hone_v18_1
  have one_v18_1 := hone_v18_1.2
  refine M4 rfl rfl rfl (fun ext => W0 (places := #[(0, 1), (1, 1)]) rfl X4 Tryz.zeroValue260 (fun w => by kernel_rfl) rfl (D7 (A0 rfl) (U8 _) (D7 (A0 rfl) (M0 one_v18_1) T7)) rfl) ?_
  refine R1 ?_
  refine Q0 rfl rfl rfl (J6 (by' := 40) 1 rfl H5 Tryz.type260 rfl rfl rfl rfl rfl rfl (A0 rfl) (A0 rfl) rfl (by rw [S6 (by rw [hinv.2, G9]; omega), O9, G9]; omega)) (fun a _ => qz4) ?_
  intro v21_2 _
  refine R3 ?_
  refine AWP.le (C1 [0, 0, 0] rfl) ?_
  refine AWP.le (N4 2 (t := nin C5.ow (l.take (i + 1)) (xs ++ [v18_1])) (AI8 (ow := C5.ow) (x := v18_1) hx hinv.2)) ?_
  refine R4 ?_
  refine L7 i v xs (i + 1) (v21_2) (xs ++ [v18_1]) ?_ ?_ (E0 1 (Eq.trans (by exact congrArg (fun z => Own.arr _ _ _ z :: _) (AF1 hx hinv.2)) (List.append_nil _).symm) ⟨rfl, rfl, rfl, rfl, rfl, trivial⟩)
  ·exact ⟨by omega, by rw [G3, hinv.2]; rfl⟩
  omega
 intro h9
 have k9 := of_decide_eq_false h9; try simp only [A5] at k9
 have hge : i = l.length := by omega
 have hxs := hinv.2.trans hge
 rw [show l.take i = l from List.take_of_length_le qz8]
 refine R7 ?_
 exact H3 [0] 0 (nin C5.ow l xs) [] (v, xs) (hxs) rfl (show List.Perm (nin C5.ow l xs) ((nin C5.ow l xs) ++ []) from B5) B0 (E4 rfl (A8 rfl V1))
theorem Aq8 {α : Type} {f : α → Nat} {l : List α} (i : Nat) : sizeL f (l.take i) ≤ sizeL f l := by
  have := AW7 (f := f) (l := l.take i) (r := l.drop i)
  rw [List.take_append_drop] at this; omega
theorem AF7 {α : Type} {f : α → Nat} {l : List α} {i : Nat} {x : α} (h : l[i]? = some x) : sizeL f (l.take (i + 1)) = sizeL f (l.take i) + (1 + f x) := by
  rw [List.take_add_one, h, AW7]
  show _ + sizeL f [x] = _
  rw [P7]; rfl
def BL6 (A : List (List AV)) (k : Str) (vs : List (List AV)) (B : List (List AV)) (D : List Own) (o2 : List C5) (f : Value → List Value) : Prop :=
  ∀ y : Value, (f y).length = o2.length ∧ A ++ [AV.str k, AV.is y] :: B = nrows C5.ocs o2 (f y) ∧ (Own.arr y 255 3 vs :: D).Perm (nin C5.ow o2 (f y))
theorem CA2 {o : List C5} {xs : List Value} {p : Nat} {c : C5} {y0 : Value} (hc : o[p]? = some c) (hy : xs[p]? = some y0) (hl : xs.length = o.length) (nv : T9) :
    BL6 (nrows C5.ocs (o.take p) (xs.take p)) c.Key (c.Vers.map T9.cs ++ [T9.cs nv]) (nrows C5.ocs (o.drop (p + 1)) (xs.drop (p + 1))) (nin C5.ow (o.eraseIdx p) (xs.eraseIdx p)) (o.set p ⟨c.Key, c.Vers ++ [nv]⟩) (fun y => xs.set p y) := fun y => by
  have hp := (List.getElem?_eq_some_iff.1 hc).1
  have hx := (List.getElem?_eq_some_iff.1 hy).1
  have hc' : (o.set p ⟨c.Key, c.Vers ++ [nv]⟩)[p]? = some ⟨c.Key, c.Vers ++ [nv]⟩ := List.getElem?_set_self hp
  have hy' : (xs.set p y)[p]? = some y := List.getElem?_set_self hx
  refine ⟨by rw [List.length_set, List.length_set, hl], ?_, ?_⟩
  · rw [s4 hc' hy', List.take_set_of_le (Nat.le_refl _), List.take_set_of_le (Nat.le_refl _), List.drop_set_of_lt qz8, List.drop_set_of_lt qz8]
    rfl
  · have h := v9 (ow := C5.ow) hc' hy'
    rw [List.eraseIdx_set_eq, List.eraseIdx_set_eq] at h
    refine List.Perm.trans ?_ h.symm
    unfold C5.ow
    simp only [List.map_append, List.map_cons, List.map_nil]
    exact List.Perm.refl _
theorem CA3 {o : List C5} {xs : List Value} {p : Nat} (hp : p ≤ o.length) (hl : xs.length = o.length) (k : Str) (nv : T9) :
    BL6 ((nrows C5.ocs o xs).take p) k [T9.cs nv] ((nrows C5.ocs o xs).drop p) (nin C5.ow o xs) (o.take p ++ ⟨k, [nv]⟩ :: o.drop p) (fun y => xs.take p ++ y :: xs.drop p) := fun y =>
  ⟨by rw [Bh9 qz8, Bh9 hp, hl], CI7 (ocs := C5.ocs) (p := ⟨k, [nv]⟩) hp hl, nin_ins (ow := C5.ow) (p := ⟨k, [nv]⟩) hp hl⟩
theorem Ak0 {l o : List C5} {w : List A9} {t : Int} {i : Nat} {x : A9} (h : putAll l w t = putAll o (w.drop i) t) (hx : w[i]? = some x) (ht : ¬ t ≤ lastTime o x.Key) : putAll l w t = putAll (putC1 o x t) (w.drop (i + 1)) t := by
  rw [h, drop_some hx]
  unfold putAll
  rw [if_neg (by simpa using ht)]
  cases w.drop (i + 1) <;> rfl
theorem put_stop {l o : List C5} {w : List A9} {t : Int} {i : Nat} {x : A9} (h : putAll l w t = putAll o (w.drop i) t) (hx : w[i]? = some x) (ht : t ≤ lastTime o x.Key) : putAll l w t = none := by
  rw [h, drop_some hx]
  unfold putAll
  rw [if_pos (by simpa using ht)]
theorem put_end {l o : List C5} {w : List A9} {t : Int} {i : Nat} (h : putAll l w t = putAll o (w.drop i) t) (hi : w.length ≤ i) : putAll l w t = some o := by
  rw [h, List.drop_eq_nil_of_le hi]; rfl
theorem CI8 (l : List C5) (w : List A9) (t : Int) (ho : w5 l) (hs : sizeL C5.size l ≤ 1048576) (hw : sizeL A9.size w ≤ 1048576) (ht1 : 1 ≤ t) : C9 Tryz.prog 222 [AV.list 2 (l.map C5.cs), AV.list 3 (w.map A9.cs), AV.int t] [] (fun x : Value × List Value => x.2.length = (putP l w t).1.length) (fun x => .arr x.1 260 2 (nrows C5.ocs (putP l w t).1 x.2) :: nin C5.ow (putP l w t).1 x.2) (fun x => AV.tup [AV.is x.1, AV.bool (putP l w t).2]) := by
 have hwl : w.length ≤ 1048576 := Nat.le_trans L3 hw
 refine C6 Tryz.func222 rfl Tryz.ntmps222 rfl ?_
 refine R2 ?_
 refine A4 rfl (D6 rfl G8) ?_
 refine R5 ?_
 refine I1 [] 0 1 ([]) ([]) (fun zz => nin C5.ow l zz.2) rfl rfl rfl rfl Tryz.call233 rfl rfl (show List.Perm ([]) (([]) ++ ([])) from List.Perm.refl _) (BV7 l qz8) (A1 (A0 rfl) A7) (fun a => J7) ?_
 intro x15 ok15
 refine R10 ?_
 refine s3 [(2, _), (16, _), (17, _)] [] (fun (i : Nat) (v : Value) (q : List C5) (xs : List Value) => i ≤ w.length ∧ xs.length = q.length ∧ w5 q ∧ sizeL C5.size q ≤ 1048576 + 2 * sizeL A9.size (w.take i) ∧ putAll l w t = putAll q (w.drop i) t) (fun (i : Nat) (v : Value) (q : List C5) (xs : List Value) => [.arr v 260 2 (nrows C5.ocs q xs)] ++ (nin C5.ow q xs)) (fun (i : Nat) (v : Value) (q : List C5) (xs : List Value) => [(8, AV.is v), (18, AV.int i)]) (fun (i : Nat) (v : Value) (q : List C5) (xs : List Value) => w.length - i) (0) (x15.1) (l) (x15.2) ?_ (H7 (by rw [List.append_nil]; rfl) ⟨rfl, rfl, rfl, rfl, rfl, trivial⟩) ?_
 ·exact ⟨Nat.zero_le _, ok15, ho, by omega, rfl⟩
 intro i v q xs hinv
 have hlen := hinv.2.1
 have hinvo := hinv
 have hrl : (nrows C5.ocs q xs).length = q.length := S6 hlen
 refine I3 (List.append_nil _) ?_
 refine R5 ?_
 refine A6 (A0 rfl) ?_ ?_
 ·intro h19
  have k19 := of_decide_eq_true h19; try simp only [A5] at k19
  have hlt : i < w.length := by omega
  obtain ⟨x, hx⟩ := get_some hlt
  have htk := Aq8 (f := A9.size) (l := w) i
  have hso : sizeL C5.size q ≤ 4194304 := by omega
  have hql : q.length ≤ 4194304 := Nat.le_trans L3 hso
  refine R5 ?_
  refine A4 rfl (C7 rfl C0 E5 (A0 rfl) (A0 rfl) hx qz3) ?_
  refine R2 ?_
  intro b10
  refine R11 ?_
  intro b11
  refine R10 ?_
  refine E2 [(2, _), (8, _), (10, _), (11, _), (16, _), (17, _), (18, _), (19, _), (20, _), (21, _), (22, _), (23, _), (24, _), (25, _), (26, _), (27, _), (28, _), (29, _)] _ (fun (j : Nat) => j ≤ q.length ∧ ∀ (a : Nat) (c : C5), j ≤ a → q[a]? = some c → Op.bytesLess x.Key c.Key = true) (fun (j : Nat) => []) (fun (j : Nat) => [(12, AV.int j)]) (fun (j : Nat) => j) (q.length) ?_ (E7 ⟨congrArg (fun z : Nat => some (AV.int z)) hrl, rfl, rfl, rfl, rfl, rfl, rfl, rfl, rfl, rfl, rfl, rfl, rfl, rfl, rfl, rfl, rfl, rfl, rfl, trivial⟩) ?_
  ·exact ⟨Nat.le_refl _, fun a c ha hc => by have := (List.getElem?_eq_some_iff.1 hc).1; omega⟩
  intro j hinv
  obtain ⟨c, hc0⟩ := AB6 q (j - 1)
  obtain ⟨y, hy0⟩ : ∃ y, j - 1 < xs.length → xs[j - 1]? = some y := ⟨xs[j - 1]?.getD (.int .i64 0), fun h => by rw [List.getElem?_eq_getElem h]; rfl⟩
  have hj1 : 0 < j → ((j : Int) - 1).toNat = j - 1 := fun _ => by omega
  have hrow0 : 0 < j → (nrows C5.ocs q xs)[((j : Int) - 1).toNat]? = some (C5.ocs c y) := fun h => by rw [hj1 h]; exact P4 (hc0 qz8) (hy0 qz8)
  refine R9 ?_
  refine L2 rfl (O5 rfl rfl rfl) (fun hc => E8 2 rfl H5 P2 (B1 rfl hc) rfl (B1 rfl hc) qz5 qz5) ?_
  refine L2 rfl (O5 rfl rfl rfl) (fun hc => I9 2 rfl X4 rfl K3 (B1 rfl hc) rfl rfl (hrow0 qz5)) ?_
  refine L2 rfl (O5 rfl rfl rfl) (fun hc => K1 2 rfl (B1 rfl hc) rfl n6 (hrow0 qz5) rfl) ?_
  refine R2 ?_
  refine L2 rfl (O5 rfl rfl rfl) (fun hc => BE3 rfl (B1 rfl hc) (B1 rfl hc)) ?_
  refine R2 ?_
  refine A6 (A0 rfl) ?_ ?_
  ·intro h42
   have hgt : 0 < j ∧ Op.bytesLess x.Key c.Key = true := by rw [T4]; simpa using h42
   refine R7 ?_
   refine AA9 ?_
   refine E9 j (j - 1) ?_ ?_ (E7 ⟨congrArg (fun z : Int => some (AV.int z)) qz8, rfl, rfl, rfl, rfl, rfl, rfl, rfl, rfl, rfl, rfl, rfl, rfl, rfl, rfl, rfl, rfl, rfl, rfl, trivial⟩)
   ·exact ⟨by omega, fun a c' ha hc' => if h9 : j ≤ a then hinv.2 a c' h9 hc' else (by have e : a = j - 1 := qz8; subst e; rw [hc0 qz8] at hc'; injection hc' with hc'; subst hc'; exact hgt.2)⟩
   omega
  intro h42
  have hng : 0 < j → Op.bytesLess x.Key c.Key = false := fun h => by rw [T4]; simpa [h] using h42
  refine R10 ?_
  refine L2 rfl (O5 rfl rfl rfl) (fun hc => E8 2 rfl H5 P2 (B1 rfl hc) rfl (B1 rfl hc) qz5 qz5) ?_
  refine L2 rfl (O5 rfl rfl rfl) (fun hc => I9 2 rfl X4 rfl K3 (B1 rfl hc) rfl rfl (hrow0 qz5)) ?_
  refine L2 rfl (O5 rfl rfl rfl) (fun hc => K1 2 rfl (B1 rfl hc) rfl n6 (hrow0 qz5) rfl) ?_
  refine R5 ?_
  refine A6 (A0 rfl) ?_ ?_
  ·intro h57
   have hf : 0 < j ∧ c.Key = x.Key := by simpa using h57
   have hc := hc0 qz8
   have hy := hy0 qz8
   have hins := scan_has hinvo.2.2.1.1 hc hf.2 ⟨t, x.Val, x.Gone⟩
   refine R6 ?_
   refine A4 rfl (AK1 rfl Tryz.call237 rfl (Ac9 q x.Key hinvo.2.2.1 hso) (L6 _ _) (T0 (BE9 (A0 rfl) (Ai0 C5.lcM (by first | exact hlen | exact hlen.trans (Ai1 _ _).symm) 2 rfl (fun o ho => List.mem_of_mem_drop (i := 3) (show o ∈ nin C5.ow q xs from by first | exact ho | exact List.mem_append_left _ ho | exact List.mem_append_right _ ho | exact List.mem_append_right _ (List.mem_append_left _ ho) | exact List.mem_append_right _ (List.mem_append_right _ ho))))) (T0 (evb (A0 rfl)) f8))) ?_
   refine R3 ?_
   refine A6 (A0 rfl) ?_ ?_
   ·intro h63
    have k63 := of_decide_eq_true h63; try simp only [A5] at k63
    have he : putP l w t = ([], false) := by unfold putP; rw [put_stop hinvo.2.2.2.2 hx k63]
    rw [he]
    refine R2 ?_
    refine A4 rfl (D6 rfl G8) ?_
    refine R3 ?_
    refine a9 260 2 ?_
    first | exact I0 [0] ((Value.slice none 0 0), []) (rfl) rfl B0 (U3 rfl D3 (B8 (A8 rfl B0) (B8 (A8 rfl B0) G6))) | exact H3 [0] 3 (nin C5.ow q xs) [] ((Value.slice none 0 0), []) (rfl) rfl (show List.Perm (nin C5.ow q xs) ((nin C5.ow q xs) ++ []) from B5) B0 (U3 rfl D3 (B8 (A8 rfl B0) (B8 (A8 rfl B0) G6))) | exact I0 [0] ((Value.slice none 0 0), xs) (hinv.2.1) rfl B0 (U3 rfl D3 (B8 (A8 rfl B0) (B8 (A8 rfl B0) G6))) | exact H3 [0] 3 (nin C5.ow q xs) [] ((Value.slice none 0 0), xs) (hinv.2.1) rfl (show List.Perm (nin C5.ow q xs) ((nin C5.ow q xs) ++ []) from B5) B0 (U3 rfl D3 (B8 (A8 rfl B0) (B8 (A8 rfl B0) G6)))
   intro h63
   have k63 := of_decide_eq_false h63; try simp only [A5] at k63
   have hnt : ¬ t ≤ lastTime q x.Key := k63
   have hpo := (List.getElem?_eq_some_iff.1 hc).1
   have hA : (nrows C5.ocs (q.take (j - 1)) (xs.take (j - 1))).length = ((j : Int) - 1).toNat := (q9 (ocs := C5.ocs) hc hy).trans (hj1 hf.1).symm
   obtain ⟨fx, hto⟩ : ∃ fx, BL6 (nrows C5.ocs (q.take (j - 1)) (xs.take (j - 1))) c.Key (c.Vers.map T9.cs ++ [T9.cs ⟨t, x.Val, x.Gone⟩]) (nrows C5.ocs (q.drop (j - 1 + 1)) (xs.drop (j - 1 + 1))) (nin C5.ow (q.eraseIdx (j - 1)) (xs.eraseIdx (j - 1))) (putC1 q x t) fx := ⟨_, by have h7 := CA2 hc hy hlen ⟨t, x.Val, x.Gone⟩; unfold putC1; rw [hins]; rw [hf.2] at h7 ⊢; exact h7⟩
   have hcs := AX3 (Nat.le_trans (W4 hc) hso)
   rw [s4 hc hy]
   refine AWP.le (N4 3 (t := (C5.ow c y) ++ (nin C5.ow (q.eraseIdx (j - 1)) (xs.eraseIdx (j - 1)))) (v9 (ow := C5.ow) hc hy)) ?_
   refine R2 ?_
   refine AWP.le (C1 [0, 1, 1] rfl) ?_
   refine M3 _ [(0, false), (1, false), (2, false), (3, false), (4, false), (5, false), (6, false), (7, false), (8, false), (9, false), (10, false), (11, true)] F2 F2 rfl (O2 2) ?_
   refine R6 ?_
   refine M4 rfl rfl rfl (fun ext => E8 1 rfl H5 P2 (A0 rfl) rfl (A0 rfl) qz8 (by rw [G3, H4]; omega)) ?_
   refine M4 rfl rfl rfl (fun ext => I9 1 rfl X4 rfl Tryz.sizeOf258 (A0 rfl) rfl rfl (AK4 hA)) ?_
   refine M4 rfl rfl rfl (fun ext => K1 1 rfl (A0 rfl) rfl Tryz.isAgg258 (AK4 hA) rfl) ?_
   refine R2 ?_
   refine Q0 rfl rfl rfl (J6 (by' := 32) 2 rfl U5 Tryz.type255 rfl rfl rfl rfl rfl rfl (A0 rfl) (A0 rfl) rfl qz3) (fun a _ => qz4) ?_
   intro v75_2 _
   refine R1 ?_
   refine A4 rfl (E8 1 rfl H5 P2 (A0 rfl) rfl (A0 rfl) qz8 (by rw [G3, H4]; omega)) ?_
   refine A4 rfl (I9 1 rfl X4 rfl Tryz.sizeOf258 (A0 rfl) rfl rfl (AK4 hA)) ?_
   refine Q5 2 rfl fun one_v75_2 => ?_
   refine Ah4 1 rfl rfl rfl (A0 rfl) (A0 rfl) (M0 one_v75_2) rfl Tryz.sizeOf258 hA rfl ?_
   refine R2 ?_
   refine I3 qz50 ?_
   refine AWP.le (C1 [0, 0, 1, 0] rfl) ?_
   refine AWP.le (N4 3 (t := nin C5.ow (putC1 q x t) (fx v75_2)) ((hto v75_2).2.2)) ?_
   refine R4 ?_
   refine Z0 i v q xs (i + 1) (v) (putC1 q x t) (fx v75_2) ?_ ?_ (Le.trans (C1 [0, 1, 0] rfl) (E0 2 (Eq.trans (by first | exact congrArg (fun z => Own.arr _ _ _ z :: _) (hto v75_2).2.1 | exact congrArg (fun z => Own.arr _ _ _ z :: _) (by first | (rw [List.nil_append, List.append_assoc]; exact (hto v75_2).2.1) | (rw [List.append_assoc]; exact (hto v75_2).2.1))) (List.append_nil _).symm) ⟨rfl, rfl, rfl, rfl, rfl, trivial⟩))
   ·exact ⟨by omega, (hto _).1, AH4 hinvo.2.2.1 _ _, by have h8 := AM5 q x t; have h9 := AF7 (f := A9.size) hx; omega, Ak0 hinvo.2.2.2.2 hx hnt⟩
   omega
  intro h57
  have hnf : 0 < j → c.Key ≠ x.Key := fun h => by simpa [h] using h57
  obtain ⟨hins, hl0⟩ := scan_new hinvo.2.2.1.1 hinv.1 hinv.2 (fun z hz hzz => by rw [hc0 qz8] at hzz; injection hzz with hzz; subst hzz; rw [T4, hng hz]; simpa using fun e => hnf hz e.symm) ⟨t, x.Val, x.Gone⟩
  have hnt : ¬ t ≤ lastTime q x.Key := by rw [hl0]; omega
  obtain ⟨fx, hto⟩ : ∃ fx, BL6 ((nrows C5.ocs q xs).take j) x.Key [T9.cs ⟨t, x.Val, x.Gone⟩] ((nrows C5.ocs q xs).drop j) (nin C5.ow q xs) (putC1 q x t) fx := ⟨_, by unfold putC1; rw [hins]; exact CA3 hinv.1 hlen _ _⟩
  refine R2 ?_
  refine AWP.le (g6 [2] 8 rfl rfl (J5 (C4 (i := 0) rfl) F4) O0) ?_
  refine R1 ?_
  refine N3 rfl rfl rfl rfl H5 P2 ?_
  intro v78
  refine R2 ?_
  refine A4 rfl (Be6 rfl H5 P2 (A0 rfl) (A0 rfl) qz8 (by rw [hrl]; omega)) ?_
  refine F6 (by' := 40) 0 rfl rfl rfl rfl H5 Tryz.type260 rfl rfl rfl rfl rfl rfl (A0 rfl) (A0 rfl) rfl Ab7 ?_
  intro v82_3
  refine R2 ?_
  refine AWP.le (g6 [0] 13 rfl rfl (J5 (C4 (i := 0) rfl) F4) O0) ?_
  refine AWP.le (C1 [0, 0] rfl) ?_
  refine Q8 _ 14 (.pure 1 (.pure 2 (.pure 3 (.pure 5 (.pure 6 (.pure 7 (.pure 12 (.e2 0 (.e2 4 (.e1 8 (.pure 9 (.pure 10 (.e1 11 (.e1 13 .nil))))) 8 (.pure 9 (.pure 10 (.e1 4 (.e1 11 (.e1 13 .nil)))))) 8 (.pure 9 (.pure 10 (.e1 0 (.e1 4 (.e1 11 (.e1 13 .nil)))))))))))))) F2 F2 rfl (O2 2) ?_
  refine R2 ?_
  refine K4 rfl rfl rfl (fun ext => Be5 rfl H5 P2 (A0 rfl) (A0 rfl) qz8 (by rw [hrl]; omega)) ?_
  refine R4 ?_
  refine j5 ?_ ?_
  ·refine F7 rfl rfl rfl (Y2 2 <| Z4 rfl H5 P2) (fun a _ => qz4) ?_
   intro v83 _
   refine j5 ?_ ?_
   ·refine F7 rfl rfl rfl (J6 (by' := 40) 2 rfl H5 Tryz.type260 rfl rfl rfl rfl rfl rfl (A0 rfl) (A0 rfl) rfl Ab7) (fun a _ => qz4) ?_
    intro v87_4 _
    refine R1 ?_
    refine F7 rfl rfl rfl (S3 3 (fun _ => rfl) (Y2 3 <| Ah7 rfl U5 a7 Tryz.zeroValue255 rfl rfl rfl rfl (D7 (A0 rfl) (V2 _) T7) rfl rfl)) (fun a _ => qz4) ?_
    intro v91 hone_v91
    have one_v91 := hone_v91.2
    refine K4 rfl rfl rfl (fun ext => W0 (places := #[(0, 1), (1, 1)]) rfl X4 Tryz.zeroValue260 (fun w => by kernel_rfl) rfl (D7 (A0 rfl) (U8 _) (D7 (A0 rfl) (M0 one_v91) T7)) rfl) ?_
    refine R2 ?_
    refine F7 rfl rfl rfl (J6 (by' := 40) 2 rfl H5 Tryz.type260 rfl rfl rfl rfl rfl rfl (A0 rfl) (A0 rfl) rfl Ab7) (fun a _ => qz4) ?_
    intro v94_5 _
    refine R1 ?_
    refine F7 rfl rfl rfl (J6 (by' := 40) 2 rfl H5 Tryz.type260 rfl rfl rfl rfl rfl rfl (A0 rfl) (A0 rfl) rfl Ab7) (fun a _ => qz4) ?_
    intro v96_6 _
    refine R3 ?_
    refine I3 qz50 ?_
    refine AWP.le (C1 [0, 0, 0, 0] rfl) ?_
    refine AWP.le (N4 3 (t := nin C5.ow (putC1 q x t) (fx v91)) ((hto v91).2.2)) ?_
    refine R4 ?_
    refine Z0 i v q xs (i + 1) (v96_6) (putC1 q x t) (fx v91) ?_ ?_ (Le.trans (C1 [0, 0, 0] rfl) (E0 2 (Eq.trans qz66 (List.append_nil _).symm) ⟨rfl, rfl, rfl, rfl, rfl, trivial⟩))
    ·exact ⟨by omega, (hto _).1, AH4 hinvo.2.2.1 _ _, by have h8 := AM5 q x t; have h9 := AF7 (f := A9.size) hx; omega, Ak0 hinvo.2.2.2.2 hx hnt⟩
    omega
   refine F7 rfl rfl rfl (S3 3 (fun _ => rfl) (Y2 3 <| Ah7 rfl U5 a7 Tryz.zeroValue255 rfl rfl rfl rfl (D7 (A0 rfl) (V2 _) T7) rfl rfl)) (fun a _ => qz4) ?_
   intro v91 hone_v91
   have one_v91 := hone_v91.2
   refine K4 rfl rfl rfl (fun ext => W0 (places := #[(0, 1), (1, 1)]) rfl X4 Tryz.zeroValue260 (fun w => by kernel_rfl) rfl (D7 (A0 rfl) (U8 _) (D7 (A0 rfl) (M0 one_v91) T7)) rfl) ?_
   refine R2 ?_
   refine F7 rfl rfl rfl (J6 (by' := 40) 2 rfl H5 Tryz.type260 rfl rfl rfl rfl rfl rfl (A0 rfl) (A0 rfl) rfl Ab7) (fun a _ => qz4) ?_
   intro v87_7 _
   refine R1 ?_
   refine F7 rfl rfl rfl (J6 (by' := 40) 2 rfl H5 Tryz.type260 rfl rfl rfl rfl rfl rfl (A0 rfl) (A0 rfl) rfl Ab7) (fun a _ => qz4) ?_
   intro v94_8 _
   refine R1 ?_
   refine F7 rfl rfl rfl (J6 (by' := 40) 2 rfl H5 Tryz.type260 rfl rfl rfl rfl rfl rfl (A0 rfl) (A0 rfl) rfl Ab7) (fun a _ => qz4) ?_
   intro v96_9 _
   refine R3 ?_
   refine I3 qz50 ?_
   refine AWP.le (C1 [0, 0, 0, 0] rfl) ?_
   refine AWP.le (N4 3 (t := nin C5.ow (putC1 q x t) (fx v91)) ((hto v91).2.2)) ?_
   refine R4 ?_
   refine Z0 i v q xs (i + 1) (v96_9) (putC1 q x t) (fx v91) ?_ ?_ (Le.trans (C1 [0, 0, 0] rfl) (E0 2 (Eq.trans qz66 (List.append_nil _).symm) ⟨rfl, rfl, rfl, rfl, rfl, trivial⟩))
   ·exact ⟨by omega, (hto _).1, AH4 hinvo.2.2.1 _ _, by have h8 := AM5 q x t; have h9 := AF7 (f := A9.size) hx; omega, Ak0 hinvo.2.2.2.2 hx hnt⟩
   omega
  refine F7 rfl rfl rfl (S3 2 (fun _ => rfl) (Y2 2 <| Ah7 rfl U5 a7 Tryz.zeroValue255 rfl rfl rfl rfl (D7 (A0 rfl) (V2 _) T7) rfl rfl)) (fun a _ => qz4) ?_
  intro v91 hone_v91
  have one_v91 := hone_v91.2
  refine K4 rfl rfl rfl (fun ext => W0 (places := #[(0, 1), (1, 1)]) rfl X4 Tryz.zeroValue260 (fun w => by kernel_rfl) rfl (D7 (A0 rfl) (U8 _) (D7 (A0 rfl) (M0 one_v91) T7)) rfl) ?_
  refine R2 ?_
  refine F7 rfl rfl rfl (Y2 3 <| Z4 rfl H5 P2) (fun a _ => qz4) ?_
  intro v83 _
  refine R1 ?_
  refine F7 rfl rfl rfl (J6 (by' := 40) 3 rfl H5 Tryz.type260 rfl rfl rfl rfl rfl rfl (A0 rfl) (A0 rfl) rfl Ab7) (fun a _ => qz4) ?_
  intro v87_10 _
  refine R1 ?_
  refine F7 rfl rfl rfl (J6 (by' := 40) 3 rfl H5 Tryz.type260 rfl rfl rfl rfl rfl rfl (A0 rfl) (A0 rfl) rfl Ab7) (fun a _ => qz4) ?_
  intro v94_11 _
  refine R1 ?_
  refine F7 rfl rfl rfl (J6 (by' := 40) 3 rfl H5 Tryz.type260 rfl rfl rfl rfl rfl rfl (A0 rfl) (A0 rfl) rfl Ab7) (fun a _ => qz4) ?_
  intro v96_12 _
  refine R3 ?_
  refine I3 qz50 ?_
  refine AWP.le (C1 [0, 0, 1, 0] rfl) ?_
  refine AWP.le (N4 3 (t := nin C5.ow (putC1 q x t) (fx v91)) ((hto v91).2.2)) ?_
  refine R4 ?_
  refine Z0 i v q xs (i + 1) (v96_12) (putC1 q x t) (fx v91) ?_ ?_ (Le.trans (C1 [0, 0, 0] rfl) (E0 2 (Eq.trans qz66 (List.append_nil _).symm) ⟨rfl, rfl, rfl, rfl, rfl, trivial⟩))
  ·exact ⟨by omega, (hto _).1, AH4 hinvo.2.2.1 _ _, by have h8 := AM5 q x t; have h9 := AF7 (f := A9.size) hx; omega, Ak0 hinvo.2.2.2.2 hx hnt⟩
  omega
 intro h19
 have k19 := of_decide_eq_false h19; try simp only [A5] at k19
 have hge : w.length ≤ i := by omega
 have hpe := put_end hinv.2.2.2.2 hge
 have htk := Aq8 (f := A9.size) (l := w) i
 have hso : sizeL C5.size q ≤ 4194304 := by omega
 have he : putP l w t = (q, l3Good q) := by unfold putP; rw [hpe]
 rw [he]
 refine R5 ?_
 refine A4 rfl (AK1 rfl Tryz.call238 rfl (Ay1 q hso) (X3 _) (T0 (BE9 (A0 rfl) (Ai0 C5.lcM (by first | exact hlen | exact hlen.trans (Ai1 _ _).symm) 0 rfl (fun o ho => List.mem_of_mem_drop (i := 1) (show o ∈ nin C5.ow q xs from by first | exact ho | exact List.mem_append_left _ ho | exact List.mem_append_right _ ho | exact List.mem_append_right _ (List.mem_append_left _ ho) | exact List.mem_append_right _ (List.mem_append_right _ ho))))) f8)) ?_
 refine R4 ?_
 first | exact I0 [0] (v, []) (rfl) rfl B0 (U3 rfl D3 (B8 (A8 rfl B0) (B8 (A8 rfl B0) G6))) | exact H3 [0] 0 (nin C5.ow q xs) [] (v, []) (rfl) rfl (show List.Perm (nin C5.ow q xs) ((nin C5.ow q xs) ++ []) from B5) B0 (U3 rfl D3 (B8 (A8 rfl B0) (B8 (A8 rfl B0) G6))) | exact H3 [0] 0 (nin C5.ow q xs) [] (v, xs) (hinv.2.1) rfl (show List.Perm (nin C5.ow q xs) ((nin C5.ow q xs) ++ []) from B5) B0 (U3 rfl D3 (B8 (A8 rfl B0) (B8 (A8 rfl B0) G6)))
end Go.Proofs.YtcfkbhnpfjjmjaaGreat
namespace Go.M
open Go.AV
theorem BV8 {h : E3} : ∀ {l : List E3} {p : Nat}, p ≤ l.length → (∀ i x, i < p → l[i]? = some x → x.Txn ≤ h.Txn) → (∀ x, l[p]? = some x → h.Txn < x.Txn) → insH h l = l.take p ++ h :: l.drop p
  | [], p, hp, _, _ => by simp at hp; subst hp; rfl
  | g :: l, 0, _, _, h2 => by unfold insH; rw [if_pos (h2 g rfl)]; rfl
  | g :: l, p + 1, hp, h1, h2 => by
    unfold insH
    rw [if_neg (by have := h1 0 g qz8 rfl; omega), BV8 (by simpa using hp) (fun i x hi hx => h1 (i + 1) x qz8 y8) (fun x hx => h2 x y8)]
    rfl
theorem BV9 {h : M1} : ∀ {l : List M1} {p : Nat}, p ≤ l.length → (∀ i x, i < p → l[i]? = some x → x.Txn ≤ h.Txn) → (∀ x, l[p]? = some x → h.Txn < x.Txn) → insT h l = l.take p ++ h :: l.drop p
  | [], p, hp, _, _ => by simp at hp; subst hp; rfl
  | g :: l, 0, _, _, h2 => by unfold insT; rw [if_pos (h2 g rfl)]; rfl
  | g :: l, p + 1, hp, h1, h2 => by
    unfold insT
    rw [if_neg (by have := h1 0 g qz8 rfl; omega), BV9 (by simpa using hp) (fun i x hi hx => h1 (i + 1) x qz8 y8) (fun x hx => h2 x y8)]
    rfl
def E3.ocs (h : E3) (x : Value × Value) : List AV := [AV.int h.Txn, AV.int h.Time, AV.int h.Lead, AV.is x.1, AV.is x.2]
def G2.ocs (s : G2) (x : Value × Value) : List AV := [AV.int s.Floor, AV.list 2 (s.Cells.map C5.cs), AV.is x.1, AV.is x.2]
end Go.M
namespace Go.Proofs.YtcfkbhnpfjjmjaaGreat
open Go Go.AV Go.M
def E3.ow (h : E3) (x : Value × Value) : List Own := [.arr x.1 9 1 (h.Reads.map fun k => [AV.str k]), .arr x.2 47 3 (h.Writes.map A9.cs)]
def G2.ow (s : G2) (x : Value × Value) : List Own := [.arr x.1 252 5 (s.Held.map E3.cs), .arr x.2 148 3 (s.Told.map M1.cs)]
theorem E3.lc (h : E3) (x : Value × Value) : X9 (E3.ow h x) (E3.ocs h x) h.cs :=
  D0 H2 (D0 H2 (D0 H2 (D0 (J5 (C4 (i := 0) rfl) F4) (D0 (J5 (C4 (i := 1) rfl) F4) U9))))
theorem G2.lc (s : G2) (x : Value × Value) : X9 (G2.ow s x) (G2.ocs s x) s.cs :=
  D0 H2 (D0 H2 (D0 (J5 (C4 (i := 0) rfl) F4) (D0 (J5 (C4 (i := 1) rfl) F4) U9)))
attribute [local irreducible] OpW OpA OpS AWP B9 J2 C9 OpE RetOk H0 I6 Le Ev F1 J8 Int.tmod Int.tdiv IntKind.wrap
end Go.Proofs.YtcfkbhnpfjjmjaaGreat
namespace Go.M
open Go.AV
theorem Ay4 {s : G2} {l : List L1} {i : Nat} {r : L1} (h : l[i]? = some r) : stFrom s (l.take (i + 1)) = o9 (stFrom s (l.take i)) r := by
  unfold stFrom
  rw [List.take_add_one, h, List.foldl_append]; rfl
theorem Ae5 : ∀ {l : List L1} {s : G2} {r : L1}, didFrom s (l ++ [r]) = didFrom s l ++ [(applyS (stFrom s l) r).2]
  | [], s, r => rfl
  | x :: l, s, r => by
    show _ :: didFrom (o9 s x) (l ++ [r]) = _
    rw [Ae5]; rfl
theorem Aq9 {s : G2} {l : List L1} {i : Nat} {r : L1} (h : l[i]? = some r) : didFrom s (l.take (i + 1)) = didFrom s (l.take i) ++ [(applyS (stFrom s (l.take i)) r).2] := by
  rw [List.take_add_one, h]; exact Ae5
def phi (s : G2) : Nat := sizeL C5.size s.Cells + 3 * sizeL E3.size s.Held + s.Told.length
theorem size_phi (s : G2) : s.size ≤ phi s := by
  have h1 : s.size = sizeL C5.size s.Cells + sizeL E3.size s.Held + s.Told.length := rfl
  unfold phi; omega
theorem CA4 {α : Type} {f : α → Nat} {a b : List α} (h : a.Perm b) : sizeL f a = sizeL f b := by
  unfold sizeL; rw [h.length_eq, (h.map f).sum_nat]
theorem Bi0 {t : Int} : ∀ {w : List A9} {l q : List C5}, putAll l w t = some q → sizeL C5.size q ≤ sizeL C5.size l + 2 * sizeL A9.size w
  | [], l, q, h => by simp [putAll] at h; subst h; omega
  | x :: w, l, q, h => by
    unfold putAll at h
    split at h
    · cases h
    · have h1 := Bi0 h
      have h2 := AM5 l x t
      rw [P7]; omega
theorem CA5 {l : List E3} {n : Int} {h : E3} (hf : findH l n = some h) : sizeL E3.size (lessH l n) + (1 + h.size) ≤ sizeL E3.size l := by
  induction l with
  | nil => simp [findH] at hf
  | cons g l ih =>
    unfold findH at hf ih
    rw [List.find?_cons] at hf
    unfold lessH at ih ⊢
    by_cases e : g.Txn = n
    · rw [beq_iff_eq.2 e] at hf
      injection hf with hf; subst hf
      rw [List.filter_cons_of_neg (by simp [e]), P7]
      have : sizeL E3.size (l.filter fun h => h.Txn != n) ≤ sizeL E3.size l := by
        clear ih
        induction l with
        | nil => exact Nat.le_refl _
        | cons y l ih =>
          rw [List.filter_cons]
          split
          · rw [P7, P7]; omega
          · rw [P7]; omega
      omega
    · rw [beq_eq_false_iff_ne.2 e] at hf
      rw [List.filter_cons_of_pos (by simp [e]), P7, P7]
      have := ih hf; omega
theorem Ay5 (l : List E3) (n : Int) : sizeL E3.size (lessH l n) ≤ sizeL E3.size l := by
  induction l with
  | nil => exact Nat.le_refl _
  | cons y l ih =>
    unfold lessH at ih ⊢
    rw [List.filter_cons]
    split
    · rw [P7, P7]; omega
    · rw [P7]; omega
theorem CI9 (s : G2) (r : L1) : phi (applyS s r).1 ≤ phi s + 3 * (1 + r.size) + 1 := by
  have hh : (hOf r).size = r.size := rfl
  have hins : sizeL E3.size (insH (hOf r) s.Held) = 1 + r.size + sizeL E3.size s.Held := by rw [CA4 (AR7 _ _), P7, hh]
  have htl : ∀ t : M1, (insT t s.Told).length = s.Told.length + 1 := fun t => by rw [(Ap4 _ _).length_eq]; rfl
  have h2 := Ay5 s.Held r.Txn
  unfold applyS
  split
  · unfold phi; dsimp only; omega
  · split
    · dsimp only; omega
    · split
      · unfold phi; dsimp only; rw [hins]; omega
      · split
        · cases hf : findH s.Held r.Txn with
          | none => dsimp only; omega
          | some h =>
            dsimp only
            split
            · dsimp only; omega
            · split
              · rename_i hp
                have h3 := Bi0 (BO8 hp).1
                have h4 := CA5 hf
                have h5 : h.size = sizeL (fun x => x.length) h.Reads + sizeL A9.size h.Writes := rfl
                unfold AG3 phi; dsimp only; rw [htl]; omega
              · dsimp only; omega
        · unfold AG3 phi; dsimp only; rw [htl]; omega
theorem phi_step (s : G2) (r : L1) : phi (o9 s r) ≤ phi s + 3 * (1 + r.size) + 1 := by
  unfold o9
  split
  · exact CI9 s r
  · omega
theorem Bi1 {m : Nat} : ∀ {l : List L1} {s : G2}, (∀ r ∈ l, r.size ≤ m) → phi (stFrom s l) ≤ phi s + l.length * (3 * (1 + m) + 1)
  | [], s, _ => by simp [stFrom]
  | r :: l, s, h => by
    have h1 := phi_step s r
    have h2 := Bi1 (l := l) (s := o9 s r) fun x hx => h x (List.mem_cons_of_mem _ hx)
    have h3 := h r List.mem_cons_self
    have h4 : stFrom s (r :: l) = stFrom (o9 s r) l := rfl
    rw [h4, H4, Nat.add_mul, Nat.one_mul]
    omega
theorem AI3 {r : L1} (h : goodRec r = true) : r.size ≤ 400 := by
  have g := goodR h
  have h1 : sizeL (fun x : Str => x.length) r.Reads ≤ r.Reads.length * 13 := c4 fun x hx => BF5 (g.reads.2 x hx)
  have h2 : sizeL A9.size r.Writes ≤ r.Writes.length * 37 := c4 (f := A9.size) fun x hx => by
    have := g.writes.2 x hx
    have k1 := BF5 this.1
    have k2 := Bx8 this.2.1
    show x.Key.length + x.Val.length ≤ 36
    omega
  have h3 : r.size = sizeL (fun x : Str => x.length) r.Reads + sizeL A9.size r.Writes := rfl
  have := g.reads.1
  have := g.writes.1
  omega
def o7 (l : List E3) (k : Str) (t : Int) : List Int := (l.filter fun h => hasK h.Writes k && decide (h.Time ≤ t)).map E3.Txn
def zTold : M1 := ⟨0, false, 0⟩
def zHeld : E3 := ⟨0, 0, 0, [], []⟩
theorem CA6 {l : List M1} {n : Int} : findT l n = none ↔ hasT l n = false := by
  unfold findT hasT; rw [List.find?_eq_none, List.any_eq_false]
theorem BH7 {l : List E3} {i : Nat} {h : E3} {k : Str} {t : Int} (hx : l[i]? = some h) (hc : (hasK h.Writes k && decide (h.Time ≤ t)) = true) : o7 (l.take (i + 1)) k t = o7 (l.take i) k t ++ [h.Txn] := by
  unfold o7; rw [List.take_add_one, hx, List.filter_append, List.map_append]
  show _ ++ List.map _ (List.filter _ [h]) = _
  rw [List.filter_cons_of_pos (p := fun h : E3 => hasK h.Writes k && decide (h.Time ≤ t)) hc]; rfl
theorem BW0 {l : List E3} {i : Nat} {h : E3} {k : Str} {t : Int} (hx : l[i]? = some h) (hc : (hasK h.Writes k && decide (h.Time ≤ t)) = false) : o7 (l.take (i + 1)) k t = o7 (l.take i) k t := by
  unfold o7; rw [List.take_add_one, hx, List.filter_append, List.map_append]
  show _ ++ List.map _ (List.filter _ [h]) = _
  rw [List.filter_cons_of_neg (p := fun h : E3 => hasK h.Writes k && decide (h.Time ≤ t)) (by rw [hc]; decide)]; simp
theorem CA7 (l : List E3) (k : Str) (t : Int) : (o7 l k t).length ≤ l.length := by unfold o7; rw [A5]; exact List.length_filter_le _ _
theorem CA8 {s : G2} (g : GS s) {h : E3} (hm : h ∈ s.Held) : 1 ≤ h.Time ∧ h.Time ≤ 100000 ∧ adj wLess h.Writes = true := by
  obtain ⟨g1, g2, g3⟩ := g.good h hm
  have h1 := g1
  unfold goodRec hRec at h1
  rw [if_pos rfl] at h1
  unfold good1 w4 within at h1
  simp only [Bool.and_eq_true, decide_eq_true_eq] at h1
  exact ⟨by omega, by omega, good_adj g1⟩
end Go.M
namespace Go.Proofs.YtcfkbhnpfjjmjaaGreat
open Go Go.AV Go.M
attribute [local irreducible] OpW OpA OpS AWP B9 J2 C9 OpE RetOk H0 I6 Le Ev F1 J8 Int.tmod Int.tdiv IntKind.wrap
end Go.Proofs.YtcfkbhnpfjjmjaaGreat
namespace Go.M
open Go.AV
end Go.M
namespace Go.Proofs.YtcfkbhnpfjjmjaaGreat
open Go Go.AV Go.M
attribute [local irreducible] OpW OpA OpS AWP B9 J2 C9 OpE RetOk H0 I6 Le Ev F1 J8 Int.tmod Int.tdiv IntKind.wrap
theorem AU2 (l : List Str) (hl : l.length ≤ 4194304) : C9 Tryz.prog 163 [strs l] [] (fun _ : Value => True) (fun v => [.arr v 9 1 (l.map fun s => [AV.str s])]) (fun v => AV.is v) := by
  refine C6 Tryz.func163 rfl Tryz.ntmps163 rfl ?_
  refine R2 ?_
  refine A4 rfl (D6 rfl G8) ?_
  refine R3 ?_
  refine N3 rfl rfl rfl rfl F9 K3 ?_
  intro v3
  refine R1 ?_
  refine F6 (by' := 16) 0 rfl rfl rfl rfl F9 Tryz.type9 rfl rfl rfl rfl rfl rfl (A0 rfl) (A0 rfl) rfl Af5 ?_
  intro v5_1
  refine R3 ?_
  exact I0 [0] v5_1 (trivial) rfl B0 (E4 rfl (A8 rfl B0))
theorem AA1 (v : Value) (l : List Str) (s : Str) (hs : n1 l) (hl : l.length ≤ 1000000) : C9 Tryz.prog 148 [AV.is v, AV.str s] [.arr v 9 1 (l.map fun s => [AV.str s])] (fun _ : Value => True) (fun v' => [.arr v' 9 1 ((putS l s).map fun s => [AV.str s])]) (fun v' => AV.is v') := by
 refine C6 Tryz.func148 rfl Tryz.ntmps148 rfl ?_
 refine R2 ?_
 refine A4 rfl (D6 rfl G8) ?_
 refine R9 ?_
 refine E2 [(0, _), (1, _), (4, _)] _ (fun (k : Nat) => k ≤ l.length ∧ ∀ i y, k ≤ i → l[i]? = some y → Op.bytesLess s y = true) (fun (k : Nat) => []) (fun (k : Nat) => [(5, AV.int k)]) (fun (k : Nat) => k) (l.length) ?_ (E7 ⟨congrArg (fun z => some (AV.int z)) (by rw [A5]), rfl, rfl, rfl, trivial⟩) ?_
 ·exact ⟨Nat.le_refl _, fun i y h1 h2 => by (have := (List.getElem?_eq_some_iff.1 h2).1; omega)⟩
 intro k hinv
 obtain ⟨y, hy0⟩ : ∃ y, 0 < k → l[k - 1]? = some y := by (by_cases h9 : 0 < k; (have h8 := hinv.1; exact ⟨_, fun _ => List.getElem?_eq_getElem (show k - 1 < l.length by omega)⟩); exact ⟨[], fun h8 => absurd h8 h9⟩)
 refine R9 ?_
 refine L4 rfl (fun hc => E8 0 rfl F9 K3 (B1 rfl hc) rfl (B1 rfl hc) Af4 (by have := of_decide_eq_true hc; have := hinv.1; simp only [A5]; omega)) ?_
 refine L4 rfl (fun hc => U7 0 rfl (B1 rfl hc) rfl n6 (str_at (hy0 Af4) Af4)) ?_
 refine R1 ?_
 refine L4 rfl (fun hc => BE3 rfl (B1 rfl hc) (B1 rfl hc)) ?_
 refine R2 ?_
 refine A6 (A0 rfl) ?_ ?_
 ·intro h19
  have hkt : 0 < k ∧ Op.bytesLess s y = true := by (rw [Av5] at h19; simpa using h19)
  refine R7 ?_
  refine AA9 ?_
  refine E9 k (k - 1) ?_ ?_ (E7 ⟨congrArg (fun z => some (AV.int z)) qz8, rfl, rfl, rfl, trivial⟩)
  ·exact ⟨by omega, fun i z hi hz => if e : k ≤ i then hinv.2 i z e hz else qz113⟩
  omega
 intro h19
 have hng : 0 < k → Op.bytesLess s y = false := fun h => by (rw [Av5] at h19; simpa [h] using h19)
 refine R10 ?_
 refine L4 rfl (fun hc => E8 0 rfl F9 K3 (B1 rfl hc) rfl (B1 rfl hc) Af4 (by have := of_decide_eq_true hc; have := hinv.1; simp only [A5]; omega)) ?_
 refine L4 rfl (fun hc => U7 0 rfl (B1 rfl hc) rfl n6 (str_at (hy0 Af4) Af4)) ?_
 refine R4 ?_
 refine A6 (A0 rfl) ?_ ?_
 ·intro h32
  have hke : 0 < k ∧ y = s := by simpa using h32
  rw [BF8 hs (by rw [← hke.2]; exact hy0 hke.1)]
  refine R6 ?_
  exact I0 [0] v (trivial) rfl qz99 (E4 rfl (A8 rfl B0))
 intro h32
 have hne : 0 < k → y ≠ s := fun h e => by simp [h, e] at h32
 rw [BT9 hs hinv.1 hinv.2 (fun z hz hzz => by rw [hy0 hz] at hzz; injection hzz with hzz; subst hzz; exact ⟨hng hz, hne hz⟩)]
 refine R5 ?_
 refine A4 rfl (Bd1 0 rfl F9 K3 (A0 rfl) rfl (A0 rfl) qz8 f6) ?_
 refine AK3 [] rfl rfl rfl rfl Tryz.call163 rfl (AU2 (l.drop k) (by rw [List.length_drop]; omega)) rfl (T0 (BE9 (A0 rfl) (Bf3 (C4 (i := 0) rfl) qz8 qz8)) f8) qz0 qz0 qz0 ?_
 intro x37 ok37
 refine R3 ?_
 refine AWP.le (g6 [0] 6 rfl rfl (J5 (C4 (i := 0) rfl) F4) (f9 0 rfl rfl O0)) ?_
 refine R3 ?_
 refine Be7 0 rfl rfl rfl rfl F9 K3 (A0 rfl) rfl (A0 rfl) qz8 f6 ?_
 intro v40_1
 rw [Int.toNat_natCast, ← List.map_take]
 refine AK3 [] rfl rfl rfl rfl Tryz.call163 rfl (AU2 (l.take k) At7) rfl (T0 (AV0 0 (A0 rfl) rfl) f8) qz0 qz0 qz0 ?_
 intro x41 ok41
 refine R2 ?_
 refine F6 (by' := 16) 0 rfl rfl rfl rfl F9 Tryz.type9 rfl rfl rfl rfl rfl rfl (A0 rfl) (A0 rfl) rfl BM1 ?_
 intro v44_2
 refine R1 ?_
 refine F6 (by' := 16) 0 rfl rfl rfl rfl F9 Tryz.type9 rfl rfl rfl rfl rfl rfl (A0 rfl) (A0 rfl) rfl (by simp only [A5, G9, List.length_drop, G3, O9]; omega) ?_
 intro v46_3
 refine R3 ?_
 exact I0 [0] v46_3 (trivial) rfl qz99 (E4 rfl (A8 rfl B0))
theorem Bi2 (r : List Str) (w : List A9) (hr : r.length ≤ 400000) (hw : w.length ≤ 400000) : C9 Tryz.prog 150 [strs r, AV.list 3 (w.map A9.cs)] [] (fun _ : Value => True) (fun v => [.arr v 9 1 ((putAllS (r ++ O8 w) []).map fun s => [AV.str s])]) (fun v => AV.is v) := by
 refine C6 Tryz.func150 rfl Tryz.ntmps150 rfl ?_
 refine R2 ?_
 refine A4 rfl (D6 rfl G8) ?_
 refine R3 ?_
 refine P1 9 1 rfl rfl rfl rfl G8 ?_
 intro v5
 refine R9 ?_
 refine J0 [(1, _), (4, _), (10, _), (11, _)] _ (fun (i : Nat) (v : Value) => i ≤ r.length) (fun (i : Nat) (v : Value) => [.arr v 9 1 ((putAllS (r.take i) []).map fun s => [AV.str s])]) (fun (i : Nat) (v : Value) => [(5, AV.is v), (12, AV.int i)]) (fun (i : Nat) (v : Value) => r.length - i) (0) (v5) ?_ (H7 B0 ⟨rfl, rfl, rfl, rfl, rfl, rfl, trivial⟩) ?_
 ·exact Nat.zero_le _
 intro i v hinv
 refine R5 ?_
 refine A6 (A0 rfl) ?_ ?_
 ·intro h13
  have k13 := of_decide_eq_true h13; try simp only [A5] at k13
  have hlt : i < r.length := by omega
  obtain ⟨x, hx⟩ := get_some hlt
  have hpl := AH2 (r.take i) []
  rw [G9] at hpl
  refine R5 ?_
  refine A4 rfl (C7 rfl F9 K3 (A0 rfl) (A0 rfl) hx qz3) ?_
  refine R6 ?_
  refine F0 [0] rfl rfl rfl rfl Tryz.call148 rfl (AA1 v (putAllS (r.take i) []) x (AB8 List.Pairwise.nil).1 (by simp only [M6] at hpl; omega)) (A1 (A0 rfl) (A1 (A0 rfl) A7)) rfl ?_
  intro x18 ok18
  refine R6 ?_
  refine G4 i v (i + 1) (x18) ?_ ?_ (H7 (by exact congrArg (fun z => [Own.arr _ 9 1 (List.map (fun s => [AV.str s]) z)]) (by rw [List.take_add_one, hx]; exact (AM4 _ _ _).symm)) ⟨rfl, rfl, rfl, rfl, rfl, rfl, trivial⟩)
  ·omega
  omega
 intro h13
 have k13 := of_decide_eq_false h13; try simp only [A5] at k13
 have hge : i = r.length := by omega
 rw [hge, List.take_length]
 refine R9 ?_
 refine J0 [(4, _), (20, _), (21, _)] _ (fun (j : Nat) (u : Value) => j ≤ w.length) (fun (j : Nat) (u : Value) => [.arr u 9 1 ((putAllS (r ++ O8 (w.take j)) []).map fun s => [AV.str s])]) (fun (j : Nat) (u : Value) => [(5, AV.is u), (22, AV.int j)]) (fun (j : Nat) (u : Value) => w.length - j) (0) (v) ?_ (H7 (by (show [_] = [_]; simp [O8])) ⟨rfl, rfl, rfl, rfl, rfl, trivial⟩) ?_
 ·exact Nat.zero_le _
 intro j u hinv
 refine R5 ?_
 refine A6 (A0 rfl) ?_ ?_
 ·intro h23
  have k23 := of_decide_eq_true h23; try simp only [A5] at k23
  have hlt : j < w.length := by omega
  obtain ⟨x, hx⟩ := get_some hlt
  have hpl := AH2 (r ++ O8 (w.take j)) []
  simp only [G3, O8, A5, G9, M6] at hpl
  refine R5 ?_
  refine A4 rfl (C7 rfl C0 E5 (A0 rfl) (A0 rfl) hx qz3) ?_
  refine R2 ?_
  intro b9
  refine R6 ?_
  refine F0 [1] rfl rfl rfl rfl Tryz.call148 rfl (AA1 u (putAllS (r ++ O8 (w.take j)) []) x.Key (AB8 List.Pairwise.nil).1 (by simp only [O8] at hpl ⊢; omega)) (A1 (A0 rfl) (A1 (A0 rfl) A7)) rfl ?_
  intro x29 ok29
  refine R6 ?_
  refine G4 j u (j + 1) (x29) ?_ ?_ (Le.trans (C1 [1, 0] rfl) (E0 1 (by exact congrArg (fun z => [Own.arr _ 9 1 (List.map (fun s => [AV.str s]) z)]) (by rw [List.take_add_one, hx]; simp only [O8, List.map_append, ← List.append_assoc]; exact (AM4 _ _ _).symm)) ⟨rfl, rfl, rfl, rfl, rfl, trivial⟩))
  ·omega
  omega
 intro h23
 have k23 := of_decide_eq_false h23; try simp only [A5] at k23
 have hge : j = w.length := by omega
 rw [hge, List.take_length]
 refine R7 ?_
 exact I0 [0] u (trivial) rfl B0 (E4 rfl (A8 rfl B0))
end Go.Proofs.YtcfkbhnpfjjmjaaGreat
namespace Go.M
open Go.AV
theorem fullC_at {l : List C5} {k : Str} {c : C5} (hc : ¬ atC l k < 0 → findC l k = some c) : fullC l k = (decide ((0 : Int) ≤ atC l k) && decide ((16 : Int) ≤ (c.Vers.length : Int))) := by
  unfold fullC
  by_cases h : atC l k < 0
  · rw [BO5 h, decide_eq_false qz8]; rfl
  · rw [hc h, decide_eq_true qz8, Bool.true_and]
    dsimp only
    rw [decide_eq_decide]; omega
theorem at_some (l : List C5) (k : Str) : ∃ c : C5, ¬ atC l k < 0 → (∃ p : Nat, atC l k = (p : Int) ∧ l[p]? = some c) ∧ findC l k = some c := by
  by_cases h : atC l k < 0
  · exact ⟨⟨[], []⟩, fun k => absurd h k⟩
  · obtain ⟨p, c, h1, h2, h3⟩ := BO6 h
    exact ⟨c, fun _ => ⟨⟨p, h1, h2⟩, h3⟩⟩
theorem AU3 {s : G2} {i : Nat} {h y : E3} (hx : s.Held[i]? = some h) (hy : s.Held[i - 1]? = some y) : heldAt s i = (!((!l4Good (hRec h) || decide (s.Floor < h.Time)) || (decide ((0 : Int) < (i : Int)) && decide (h.Txn ≤ y.Txn))) && ((s.Held.take i).all (fun g => apart g h.Reads h.Writes) && h.Writes.all fun w => decide (lastTime s.Cells w.Key < h.Time))) := by
  rw [CI5 hx hy, AM3]
  have h2 : ((s.Held.take i).all fun g => apart g h.Reads h.Writes) = !((s.Held.take i).any fun g => clash h g) := by
    rw [List.not_any_eq_all_not]; congr 1; funext g; rw [Ax8, Bool.not_not]
  have h3 : (h.Writes.all fun w => decide (lastTime s.Cells w.Key < h.Time)) = !(h.Writes.any fun w => decide (h.Time ≤ lastTime s.Cells w.Key)) := by
    rw [List.not_any_eq_all_not]; congr 1; funext w; rw [← decide_not, decide_eq_decide]; omega
  rw [h2, h3]
theorem Ak1 {s : G2} {i : Nat} {t y : M1} (hx : s.Told[i]? = some t) (hy : s.Told[i - 1]? = some y) : toldAt s i = (!((((!within t.Txn 1 60 || (decide ((0 : Int) < (i : Int)) && decide (t.Txn ≤ y.Txn))) || (t.Yes && !within t.Time 1 s.Floor)) || (!t.Yes && (t.Time != 0)))) && !hasH s.Held t.Txn) := by
  rw [CI6 hx hy]
  congr 2
  show ((!within t.Txn 1 60 || _) || _) = _
  have e : (!((t.Yes && within t.Time 1 s.Floor) || (!t.Yes && (t.Time == 0)))) = ((t.Yes && !within t.Time 1 s.Floor) || (!t.Yes && (t.Time != 0))) := by
    show _ = ((t.Yes && !within t.Time 1 s.Floor) || (!t.Yes && !(t.Time == 0)))
    cases t.Yes <;> simp
  rw [e]
  cases within t.Txn 1 60 <;> cases (decide ((0 : Int) < (i : Int)) && decide (t.Txn ≤ y.Txn)) <;> cases (t.Yes && !within t.Time 1 s.Floor) <;> cases (!t.Yes && (t.Time != 0)) <;> rfl
def heldFO (l : List E3) (n : Int) : E3 × Bool := match findH l n with | some h => (h, true) | none => (zHeld, false)
def toldFO (l : List M1) (n : Int) : M1 × Bool := match findT l n with | some h => (h, true) | none => (zTold, false)
theorem Ar0 (l : List E3) (n : Int) : (heldFO l n).2 = hasH l n := by
  unfold heldFO
  cases h : findH l n with
  | none => exact (BG4.1 h).symm
  | some x => obtain ⟨h1, h2⟩ := AT8 h; exact (hasH_iff.2 ⟨x, h1, h2⟩).symm
theorem CJ0 (l : List M1) (n : Int) : (toldFO l n).2 = hasT l n := by
  unfold toldFO
  cases h : findT l n with
  | none => exact (CA6.1 h).symm
  | some x =>
    unfold findT at h
    exact (hasT_iff.2 ⟨x, List.mem_of_find?_eq_some h, by simpa using List.find?_some h⟩).symm
theorem Ak2 {α : Type} {p : α → Bool} : ∀ {l : List α} {i : Nat} {x : α}, l[i]? = some x → p x = true → (∀ j y, j < i → l[j]? = some y → p y = false) → l.find? p = some x
  | [], i, x, h, _, _ => by simp at h
  | y :: l, 0, x, h, hp, _ => by simp at h; subst h; rw [List.find?_cons, hp]
  | y :: l, i + 1, x, h, hp, hn => by
    rw [List.find?_cons, hn 0 y qz8 rfl]
    exact Ak2 s9 hp fun j z hj hz => hn (j + 1) z qz8 (by simpa using hz)
theorem Bi3 {α : Type} {p : α → Bool} {l : List α} (hn : ∀ (j : Nat) (y : α), l[j]? = some y → p y = false) : l.find? p = none := by
  rw [List.find?_eq_none]
  intro x hx
  obtain ⟨j, hj⟩ := List.getElem?_of_mem hx
  rw [hn j x hj]; decide
end Go.M
namespace Go.Proofs.YtcfkbhnpfjjmjaaGreat
open Go Go.AV Go.M
attribute [local irreducible] OpW OpA OpS AWP B9 J2 C9 OpE RetOk H0 I6 Le Ev F1 J8 Int.tmod Int.tdiv IntKind.wrap
theorem BZ8 (h : E3) : B9 Tryz.prog 256 [AV.agg h.cs] (AV.agg (hRec h).cs) := by
  refine B7 Tryz.func256 rfl Tryz.ntmps256 rfl ?_
  refine R3 ?_
  intro b1
  refine R1 ?_
  intro b2
  refine R17 ?_
  exact D4 rfl (H1 (ys := _) 0 rfl rfl Tryz.isAgg221 Tryz.sizeOf221 rfl)
theorem AN1 (l : List A9) (k : Str) : B9 Tryz.prog 50 [AV.list 3 (l.map A9.cs), AV.str k] (AV.bool (hasK l k)) := by
 refine B7 Tryz.func50 rfl Tryz.ntmps50 rfl ?_
 refine S1 (t := 0) rfl fun hl => ?_
 try simp only [A5] at hl
 refine R12 ?_
 refine E2 [(1, _), (7, _), (8, _)] _ (fun (i : Nat) => i ≤ l.length ∧ hasK l k = (l.drop i).any (fun w => w.Key == k)) (fun (i : Nat) => []) (fun (i : Nat) => [(9, AV.int i)]) (fun (i : Nat) => l.length - i) (0) ?_ (E7 ⟨rfl, rfl, rfl, rfl, trivial⟩) ?_
 ·exact ⟨Nat.zero_le _, rfl⟩
 intro i hinv
 refine R5 ?_
 refine A6 (A0 rfl) ?_ ?_
 ·intro h10
  have k10 := of_decide_eq_true h10; try simp only [A5] at k10
  have hlt : i < l.length := by omega
  obtain ⟨x, hx⟩ := get_some hlt
  refine R5 ?_
  refine A4 rfl (C7 rfl C0 E5 (A0 rfl) (A0 rfl) hx qz3) ?_
  refine R2 ?_
  intro b6
  refine R9 ?_
  refine A6 (A0 rfl) ?_ ?_
  ·intro h16
   refine R5 ?_
   exact D4 rfl (A8 rfl qz158)
  intro h16
  refine R5 ?_
  refine E9 i (i + 1) ?_ ?_ (O4 1 ⟨rfl, rfl, rfl, rfl, trivial⟩)
  ·exact ⟨by omega, by rw [hinv.2, drop_some hx, List.any_cons, h16]; rfl⟩
  omega
 intro h10
 have k10 := of_decide_eq_false h10; try simp only [A5] at k10
 have hge : l.length ≤ i := by omega
 refine R6 ?_
 exact D4 rfl (A8 rfl qz158)
theorem BH8 (l : List Str) (k : Str) : B9 Tryz.prog 250 [strs l, AV.str k] (AV.bool (hasS l k)) := by
 refine B7 Tryz.func250 rfl Tryz.ntmps250 rfl ?_
 refine S1 (t := 0) rfl fun hl => ?_
 try simp only [A5] at hl
 refine R12 ?_
 refine E2 [(1, _), (7, _), (8, _)] _ (fun (i : Nat) => i ≤ l.length ∧ hasS l k = (l.drop i).any (fun x => k == x)) (fun (i : Nat) => []) (fun (i : Nat) => [(9, AV.int i)]) (fun (i : Nat) => l.length - i) (0) ?_ (E7 ⟨rfl, rfl, rfl, rfl, trivial⟩) ?_
 ·exact ⟨Nat.zero_le _, rfl⟩
 intro i hinv
 refine R5 ?_
 refine A6 (A0 rfl) ?_ ?_
 ·intro h10
  have k10 := of_decide_eq_true h10; try simp only [A5] at k10
  have hlt : i < l.length := by omega
  obtain ⟨x, hx⟩ := get_some hlt
  refine R5 ?_
  refine A4 rfl (C7 rfl F9 K3 (A0 rfl) (A0 rfl) hx qz3) ?_
  refine R9 ?_
  refine A6 (A0 rfl) ?_ ?_
  ·intro h15
   refine R5 ?_
   exact D4 rfl (A8 rfl qz120)
  intro h15
  refine R5 ?_
  refine E9 i (i + 1) ?_ ?_ (E7 ⟨rfl, rfl, rfl, rfl, trivial⟩)
  ·exact ⟨by omega, by rw [hinv.2, drop_some hx, List.any_cons, show (k == x) = false from by have h9 := h15; simp at h9 ⊢; exact fun e => h9 e.symm]; rfl⟩
  omega
 intro h10
 have k10 := of_decide_eq_false h10; try simp only [A5] at k10
 have hge : l.length ≤ i := by omega
 refine R6 ?_
 exact D4 rfl (A8 rfl qz120)
theorem apart_spec (h : E3) (rs : List Str) (ws : List A9) : B9 Tryz.prog 235 [AV.agg h.cs, strs rs, AV.list 3 (ws.map A9.cs)] (AV.bool (apart h rs ws)) := by
 refine B7 Tryz.func235 rfl Tryz.ntmps235 rfl ?_
 refine S1 (t := 1) rfl fun hl1 => ?_
 try simp only [A5] at hl1
 refine S1 (t := 2) rfl fun hl2 => ?_
 try simp only [A5] at hl2
 refine R3 ?_
 intro b3
 refine R10 ?_
 refine E2 [(2, _), (3, _), (11, _), (12, _)] _ (fun (i : Nat) => i ≤ rs.length ∧ (rs.all fun k => !hasK h.Writes k) = ((rs.drop i).all fun k => !hasK h.Writes k)) (fun (i : Nat) => []) (fun (i : Nat) => [(13, AV.int i)]) (fun (i : Nat) => rs.length - i) (0) ?_ (E7 ⟨rfl, rfl, rfl, rfl, rfl, trivial⟩) ?_
 ·exact ⟨Nat.zero_le _, rfl⟩
 intro i hinv
 refine R5 ?_
 refine A6 (A0 rfl) ?_ ?_
 ·intro h14
  have k14 := of_decide_eq_true h14; try simp only [A5] at k14
  have hlt : i < rs.length := by omega
  obtain ⟨x, hx⟩ := get_some hlt
  refine R5 ?_
  refine A4 rfl (C7 rfl F9 K3 (A0 rfl) (A0 rfl) hx qz3) ?_
  refine R8 ?_
  refine A4 rfl (B2 rfl Tryz.call50 rfl (AN1 _ _) (A1 (A0 rfl) (A1 (A0 rfl) A7))) ?_
  refine R1 ?_
  refine A6 (A0 rfl) ?_ ?_
  ·intro h20
   have hfin : apart h rs ws = false := by (unfold apart; rw [hinv.2, drop_some hx, List.all_cons, h20]; rfl)
   refine R5 ?_
   exact D4 rfl (A8 rfl AY3)
  intro h20
  refine R5 ?_
  refine E9 i (i + 1) ?_ ?_ (E7 ⟨rfl, rfl, rfl, rfl, rfl, trivial⟩)
  ·exact ⟨by omega, by rw [hinv.2, drop_some hx, List.all_cons, h20]; rfl⟩
  omega
 intro h14
 have k14 := of_decide_eq_false h14; try simp only [A5] at k14
 have hge : rs.length ≤ i := by omega
 have hr : (rs.all fun k => !hasK h.Writes k) = true := by (rw [hinv.2, List.drop_eq_nil_of_le hge]; rfl)
 refine R9 ?_
 refine E2 [(3, _), (22, _), (23, _)] _ (fun (q : Nat) => q ≤ ws.length ∧ (ws.all fun w => !(hasK h.Writes w.Key || hasS h.Reads w.Key)) = ((ws.drop q).all fun w => !(hasK h.Writes w.Key || hasS h.Reads w.Key))) (fun (q : Nat) => []) (fun (q : Nat) => [(24, AV.int q)]) (fun (q : Nat) => ws.length - q) (0) ?_ (E7 ⟨rfl, rfl, rfl, rfl, trivial⟩) ?_
 ·exact ⟨Nat.zero_le _, rfl⟩
 intro q hinv
 refine R5 ?_
 refine A6 (A0 rfl) ?_ ?_
 ·intro h25
  have k25 := of_decide_eq_true h25; try simp only [A5] at k25
  have hlt : q < ws.length := by omega
  obtain ⟨x, hx⟩ := get_some hlt
  refine R5 ?_
  refine A4 rfl (C7 rfl C0 E5 (A0 rfl) (A0 rfl) hx qz3) ?_
  refine R2 ?_
  intro b10
  refine R8 ?_
  refine A4 rfl (B2 rfl Tryz.call50 rfl (AN1 _ _) (A1 (A0 rfl) (A1 (A0 rfl) A7))) ?_
  refine R5 ?_
  refine U1 rfl (fun hc => B2 rfl Tryz.call250 rfl (BH8 _ _) (A1 (B1 rfl hc) (A1 (B1 rfl hc) A7))) ?_
  refine R2 ?_
  refine A6 (A0 rfl) ?_ ?_
  ·intro h39
   have hfin : apart h rs ws = false := by (unfold apart; rw [hinv.2, drop_some hx, List.all_cons, h39]; simp)
   refine R5 ?_
   exact D4 rfl (A8 rfl AY3)
  intro h39
  refine R5 ?_
  refine E9 q (q + 1) ?_ ?_ (O4 1 ⟨rfl, rfl, rfl, rfl, trivial⟩)
  ·exact ⟨by omega, by rw [hinv.2, drop_some hx, List.all_cons, h39]; rfl⟩
  omega
 intro h25
 have k25 := of_decide_eq_false h25; try simp only [A5] at k25
 have hge : ws.length ≤ q := by omega
 have hfin : apart h rs ws = true := by (unfold apart; rw [hr, hinv.2, List.drop_eq_nil_of_le hge]; rfl)
 refine R6 ?_
 exact D4 rfl (A8 rfl AY3)
theorem Bp3 (l : List E3) (q : Nat) : (hWs (l.take q)).length ≤ (hWs l).length := by
  have h := BF9 (l.take q) (l.drop q)
  rw [List.take_append_drop] at h
  rw [h, G3]; omega
theorem BH9 (s : G2) (ws : List A9) (hs : s.size ≤ 1048576) (hb : s.Cells.length + ws.length + (hWs s.Held).length ≤ 800000) : B9 Tryz.prog 236 [AV.agg s.cs, AV.list 3 (ws.map A9.cs)] (AV.bool (room s.Cells (ws ++ hWs s.Held))) := by
 obtain ⟨hs1, hs2, hs3, hs4, hs5⟩ := s6 hs
 obtain ⟨p, hp⟩ : ∃ p : A9 → Bool, p = fun w => !fullC s.Cells w.Key := ⟨_, rfl⟩
 obtain ⟨al, hal⟩ : ∃ al, ws ++ hWs s.Held = al := ⟨_, rfl⟩
 have hall : al.length ≤ 800000 - s.Cells.length := by rw [← hal, G3]; omega
 rw [hal]
 refine B7 Tryz.func236 rfl Tryz.ntmps236 rfl ?_
 refine R3 ?_
 intro b2
 refine R4 ?_
 refine P1 9 1 rfl rfl rfl rfl G8 ?_
 intro v5
 refine R10 ?_
 refine J0 [(1, _), (2, _), (4, _), (15, _), (16, _)] _ (fun (i : Nat) (v : Value) => i ≤ s.Cells.length) (fun (i : Nat) (v : Value) => [.arr v 9 1 ((putAllS (i9 (s.Cells.take i)) []).map fun s => [AV.str s])]) (fun (i : Nat) (v : Value) => [(5, AV.is v), (17, AV.int i)]) (fun (i : Nat) (v : Value) => s.Cells.length - i) (0) (v5) ?_ (H7 B0 ⟨rfl, rfl, rfl, rfl, rfl, rfl, rfl, trivial⟩) ?_
 ·exact Nat.zero_le _
 intro i v hinv
 refine R5 ?_
 refine A6 (A0 rfl) ?_ ?_
 ·intro h18
  have k18 := of_decide_eq_true h18; try simp only [A5] at k18
  have hlt : i < s.Cells.length := by omega
  obtain ⟨c, hx⟩ := get_some hlt
  have hpl := AH2 (i9 (s.Cells.take i)) []
  unfold i9 at hpl
  simp only [A5, G9, M6] at hpl
  refine R5 ?_
  refine A4 rfl (C7 rfl H5 P2 (A0 rfl) (A0 rfl) hx qz3) ?_
  refine R2 ?_
  intro b7
  refine R6 ?_
  refine F0 [1] rfl rfl rfl rfl Tryz.call148 rfl (AA1 v (putAllS (i9 (s.Cells.take i)) []) c.Key (AB8 List.Pairwise.nil).1 (by unfold i9; omega)) (A1 (A0 rfl) (A1 (A0 rfl) A7)) rfl ?_
  intro x24 ok24
  refine R6 ?_
  refine G4 i v (i + 1) (x24) ?_ ?_ (Le.trans (C1 [1, 0] rfl) (E0 1 (by exact congrArg (fun z => Own.arr _ 9 1 (List.map (fun s => [AV.str s]) z) :: _) (by unfold i9; rw [List.take_add_one, hx, List.map_append]; exact (AM4 _ _ _).symm)) ⟨rfl, rfl, rfl, rfl, rfl, rfl, rfl, trivial⟩))
  ·omega
  omega
 intro h18
 have k18 := of_decide_eq_false h18; try simp only [A5] at k18
 have hge : s.Cells.length ≤ i := by omega
 rw [List.take_of_length_le hge]
 refine R3 ?_
 refine N3 rfl rfl rfl rfl C0 E5 ?_
 intro v26
 refine R1 ?_
 refine F6 (by' := 40) 0 rfl rfl rfl rfl C0 Tryz.type47 rfl rfl rfl rfl rfl rfl (A0 rfl) (A0 rfl) rfl Af5 ?_
 intro v28_1
 refine R11 ?_
 refine Q4 [(2, _), (4, _), (5, _), (30, _), (31, _)] _ (fun (q : Nat) (u : Value) (a : List A9) => q ≤ s.Held.length ∧ a = ws ++ hWs (s.Held.take q)) (fun (q : Nat) (u : Value) (a : List A9) => [.arr u 47 3 (a.map A9.cs)]) (fun (q : Nat) (u : Value) (a : List A9) => [(8, AV.is u), (32, AV.int q)]) (fun (q : Nat) (u : Value) (a : List A9) => s.Held.length - q) (0) (v28_1) (ws) ?_ (H7 B0 ⟨rfl, rfl, rfl, rfl, rfl, rfl, rfl, trivial⟩) ?_
 ·exact ⟨Nat.zero_le _, by rw [List.take_zero]; exact (List.append_nil _).symm⟩
 intro q u a hinv
 refine R5 ?_
 refine A6 (A0 rfl) ?_ ?_
 ·intro h33
  have k33 := of_decide_eq_true h33; try simp only [A5] at k33
  have hlt : q < s.Held.length := by omega
  obtain ⟨h, hx⟩ := get_some hlt
  obtain ⟨g1, g2, g3, g4, g5⟩ := AK7 hs2 hx
  have hwt := Bp3 s.Held q
  have hal9 : a.length ≤ 800000 := by (rw [hinv.2, G3]; omega)
  refine R5 ?_
  refine A4 rfl (C7 rfl I8 N8 (A0 rfl) (A0 rfl) hx qz3) ?_
  refine R2 ?_
  intro b10
  refine R6 ?_
  refine F6 (by' := 40) 1 rfl rfl rfl rfl C0 Tryz.type47 rfl rfl rfl rfl rfl rfl (A0 rfl) (A0 rfl) rfl (by simp only [G3, A5]; omega) ?_
  intro v39_2
  refine R6 ?_
  refine L7 q u a (q + 1) (v39_2) (a ++ h.Writes) ?_ ?_ (Le.trans (C1 [0, 0] rfl) (E0 1 AY2 ⟨rfl, rfl, rfl, rfl, rfl, rfl, rfl, trivial⟩))
  ·exact ⟨by omega, by rw [hinv.2, hWs_take hx, List.append_assoc]⟩
  omega
 intro h33
 have k33 := of_decide_eq_false h33; try simp only [A5] at k33
 have hge : s.Held.length ≤ q := by omega
 have ha9 : a = al := by (rw [hinv.2, List.take_of_length_le hge, hal])
 subst ha9
 refine R9 ?_
 refine AWP.le (C1 [1] rfl) ?_
 refine Q4 [(2, _), (41, _), (42, _)] _ (fun (r : Nat) (v2 : Value) (ks : List Str) => r ≤ a.length ∧ a.all p = (a.drop r).all p ∧ ks = putAllS (i9 s.Cells ++ O8 (a.take r)) []) (fun (r : Nat) (v2 : Value) (ks : List Str) => [.arr v2 9 1 (ks.map fun s => [AV.str s])]) (fun (r : Nat) (v2 : Value) (ks : List Str) => [(5, AV.is v2), (43, AV.int r)]) (fun (r : Nat) (v2 : Value) (ks : List Str) => a.length - r) (0) (v) (putAllS (i9 s.Cells) []) ?_ (H7 B0 ⟨rfl, rfl, rfl, rfl, rfl, trivial⟩) ?_
 ·exact ⟨Nat.zero_le _, rfl, by rw [List.take_zero]; exact congrArg (fun z => putAllS z []) (List.append_nil _).symm⟩
 intro r v2 ks hinv
 refine R5 ?_
 refine A6 (A0 rfl) ?_ ?_
 ·intro h44
  have k44 := of_decide_eq_true h44; try simp only [A5] at k44
  have hlt : r < a.length := by omega
  obtain ⟨w, hx⟩ := get_some hlt
  obtain ⟨c, hc0⟩ := at_some s.Cells w.Key
  have hfu := fullC_at (l := s.Cells) (k := w.Key) (c := c) (fun h9 => (hc0 h9).2)
  have hpl := AH2 (i9 s.Cells ++ O8 (a.take r)) []
  unfold i9 O8 at hpl
  simp only [G3, A5, G9, M6] at hpl
  refine R5 ?_
  refine A4 rfl (E8 1 rfl C0 E5 (A0 rfl) rfl (A0 rfl) qz8 (by try simp only [A5]; omega)) ?_
  refine A4 rfl (W9 1 rfl (A0 rfl) rfl Tryz.isAgg47 E5 (by rw [Int.toNat_natCast, List.getElem?_map, hx]; rfl) D3) ?_
  refine R1 ?_
  intro b12
  refine R7 ?_
  refine F0 [1] rfl rfl rfl rfl Tryz.call148 rfl (AA1 v2 ks w.Key (by rw [hinv.2.2]; exact (AB8 List.Pairwise.nil).1) (by rw [hinv.2.2]; unfold i9 O8; omega)) (A1 (A0 rfl) (A1 (A0 rfl) A7)) rfl ?_
  intro x50 ok50
  refine R8 ?_
  refine A4 rfl (B2 rfl Tryz.call216 rfl (Aq7 _ _) (A1 (A0 rfl) (A1 (A0 rfl) A7))) ?_
  refine R10 ?_
  refine L4 rfl (fun hc => t3 rfl H5 P2 (B1 rfl hc) (B1 rfl hc) (by have h9 := of_decide_eq_true hc; obtain ⟨⟨p9, e1, e2⟩, _⟩ := hc0 qz8; have := (List.getElem?_eq_some_iff.1 e2).1; omega) (by have h9 := of_decide_eq_true hc; obtain ⟨⟨p9, e1, e2⟩, _⟩ := hc0 qz8; rw [e1, Int.toNat_natCast, List.getElem?_map, e2]; rfl)) ?_
  refine R6 ?_
  refine A6 (A0 rfl) ?_ ?_
  ·intro h67
   have hpw : p w = false := by (rw [hp]; simp only [Bool.not_eq_false']; rw [hfu]; rw [A5] at h67; exact h67)
   have hro : room s.Cells a = false := by (unfold room; rw [show (a.all fun w => !fullC s.Cells w.Key) = false from by rw [← hp, hinv.2.1, drop_some hx, List.all_cons, hpw]; rfl]; rfl)
   refine R5 ?_
   exact D4 rfl (A8 rfl qz151)
  intro h67
  have hpw : p w = true := by (rw [hp]; simp only [Bool.not_eq_true']; rw [hfu]; rw [A5] at h67; exact h67)
  refine R5 ?_
  refine L7 r v2 ks (r + 1) (x50) (putS ks w.Key) ?_ ?_ (Le.trans (C1 [1, 0] rfl) (E0 1 B0 ⟨rfl, rfl, rfl, rfl, rfl, trivial⟩))
  ·exact ⟨by omega, by rw [hinv.2.1, drop_some hx, List.all_cons, hpw]; rfl, by rw [hinv.2.2]; unfold O8; rw [List.take_add_one, hx, List.map_append, ← List.append_assoc]; exact (AM4 _ _ _).symm⟩
  omega
 intro h44
 have k44 := of_decide_eq_false h44; try simp only [A5] at k44
 have hge : a.length ≤ r := by omega
 have hks := hinv.2.2
 rw [List.take_of_length_le hge] at hks
 have hro : room s.Cells a = decide (ks.length ≤ 24) := by (unfold room roomKs; rw [← hp, hinv.2.1, List.drop_eq_nil_of_le hge, BT8, ← hks]; rfl)
 refine R9 ?_
 exact D4 rfl (A8 rfl qz151)
theorem CA9 (s : G2) (ws : List A9) (hs : s.size ≤ 400000) (hw : sizeL A9.size ws ≤ 400000) : B9 Tryz.prog 236 [AV.agg s.cs, AV.list 3 (ws.map A9.cs)] (AV.bool (room s.Cells (ws ++ hWs s.Held))) := by
  have hsum : sizeL C5.size s.Cells + sizeL E3.size s.Held ≤ 400000 := by have h9 : s.size = sizeL C5.size s.Cells + sizeL E3.size s.Held + s.Told.length := rfl; omega
  have hcl := L3 (f := C5.size) (l := s.Cells)
  have hwl := L3 (f := A9.size) (l := ws)
  have hhl := Bv4 (l := s.Held)
  exact BH9 s ws qz8 qz8
theorem BW1 : ∀ {l : List E3}, (∀ h ∈ l, goodRec (hRec h) = true) → (hWs l).length ≤ 400 * l.length
  | [], _ => Nat.le_refl _
  | h :: l, hg => by
    have ih := BW1 fun k hk => hg k (List.mem_cons_of_mem h hk)
    have h1 := AI3 (hg h List.mem_cons_self)
    have h4 := L3 (f := A9.size) (l := h.Writes)
    have h2 : (hRec h).size = sizeL (fun x => x.length) h.Reads + sizeL A9.size h.Writes := rfl
    rw [BC3, G3, H4]; omega
theorem CB0 {s : G2} (h : allB s.Held.length (heldAt s) = true) : ∀ k ∈ s.Held, goodRec (hRec k) = true := fun k hk => by
  obtain ⟨i, hi⟩ := List.getElem?_of_mem hk
  have h9 := AW8.1 h i (List.getElem?_eq_some_iff.1 hi).1
  unfold heldAt at h9
  rw [hi] at h9
  simp only [Bool.and_eq_true] at h9
  exact h9.1.1.1.1
theorem AE0 (s : G2) (n : Int) (hlen : s.Held.length ≤ 1048576) : B9 Tryz.prog 219 [AV.agg s.cs, AV.int n] (AV.tup [AV.agg (heldFO s.Held n).1.cs, AV.bool (heldFO s.Held n).2]) := by
 obtain ⟨l, hl⟩ : ∃ l, s.Held = l := ⟨_, rfl⟩
 have hcs : s.cs = [AV.int s.Floor, AV.list 2 (s.Cells.map C5.cs), AV.list 5 (l.map E3.cs), AV.list 3 (s.Told.map M1.cs)] := by rw [← hl]; rfl
 rw [hl] at hlen
 rw [hl, hcs]
 refine B7 Tryz.func219 rfl Tryz.ntmps219 rfl ?_
 refine R3 ?_
 intro b2
 refine R1 ?_
 intro b4
 refine R11 ?_
 refine E2 [(1, _), (4, _), (9, _), (10, _)] _ (fun (i : Nat) => i ≤ l.length ∧ ∀ j y, j < i → l[j]? = some y → (y.Txn == n) = false) (fun (i : Nat) => []) (fun (i : Nat) => [(11, AV.int i)]) (fun (i : Nat) => l.length - i) (0) ?_ (E7 ⟨rfl, rfl, rfl, rfl, rfl, trivial⟩) ?_
 ·exact ⟨Nat.zero_le _, fun j y hj => by omega⟩
 intro i hinv
 refine R5 ?_
 refine A6 (A0 rfl) ?_ ?_
 ·intro h12
  have k12 := of_decide_eq_true h12; try simp only [A5] at k12
  have hlt : i < l.length := by omega
  obtain ⟨x, hx⟩ := get_some hlt
  refine R5 ?_
  refine A4 rfl (C7 rfl I8 N8 (A0 rfl) (A0 rfl) hx qz3) ?_
  refine R2 ?_
  intro b7
  refine R9 ?_
  refine A6 (A0 rfl) ?_ ?_
  ·intro h18
   have k18 := D1 h18; try simp only [A5] at k18
   have he : heldFO l n = (x, true) := by (unfold heldFO findH; rw [Ak2 hx h18 hinv.2])
   rw [he]
   refine R7 ?_
   exact U2 rfl D3 (B8 (H1 (ys := _) 1 rfl rfl Tryz.isAgg252 N8 rfl) (B8 (A8 rfl B0) G6))
  intro h18
  have k18 := D5 h18; try simp only [A5] at k18
  refine R5 ?_
  refine E9 i (i + 1) ?_ ?_ (O4 1 ⟨rfl, rfl, rfl, rfl, rfl, trivial⟩)
  ·exact ⟨by omega, fun j y hj hy => if hji : j < i then hinv.2 j y hji hy else qz180⟩
  omega
 intro h12
 have k12 := of_decide_eq_false h12; try simp only [A5] at k12
 have hge : l.length ≤ i := by omega
 have he : heldFO l n = (zHeld, false) := by (unfold heldFO findH; rw [Bi3 fun j y hy => hinv.2 j y (Nat.lt_of_lt_of_le (List.getElem?_eq_some_iff.1 hy).1 hge) hy])
 rw [he]
 refine R8 ?_
 refine Ac1 0 3 1 rfl rfl ?_
 refine Ac1 0 4 3 rfl rfl ?_
 exact U2 rfl D3 (B8 (H1 (ys := _) 0 rfl rfl Tryz.isAgg252 N8 rfl) (B8 (A8 rfl B0) G6))
theorem l7 (s : G2) (n : Int) (hlen : s.Told.length ≤ 1048576) : B9 Tryz.prog 147 [AV.agg s.cs, AV.int n] (AV.tup [AV.agg (toldFO s.Told n).1.cs, AV.bool (toldFO s.Told n).2]) := by
 obtain ⟨l, hl⟩ : ∃ l, s.Told = l := ⟨_, rfl⟩
 have hcs : s.cs = [AV.int s.Floor, AV.list 2 (s.Cells.map C5.cs), AV.list 5 (s.Held.map E3.cs), AV.list 3 (l.map M1.cs)] := by rw [← hl]; rfl
 rw [hl] at hlen
 rw [hl, hcs]
 refine B7 Tryz.func147 rfl Tryz.ntmps147 rfl ?_
 refine R3 ?_
 intro b2
 refine R1 ?_
 intro b4
 refine R11 ?_
 refine E2 [(1, _), (4, _), (9, _), (10, _)] _ (fun (i : Nat) => i ≤ l.length ∧ ∀ j y, j < i → l[j]? = some y → (y.Txn == n) = false) (fun (i : Nat) => []) (fun (i : Nat) => [(11, AV.int i)]) (fun (i : Nat) => l.length - i) (0) ?_ (E7 ⟨rfl, rfl, rfl, rfl, rfl, trivial⟩) ?_
 ·exact ⟨Nat.zero_le _, fun j y hj => by omega⟩
 intro i hinv
 refine R5 ?_
 refine A6 (A0 rfl) ?_ ?_
 ·intro h12
  have k12 := of_decide_eq_true h12; try simp only [A5] at k12
  have hlt : i < l.length := by omega
  obtain ⟨x, hx⟩ := get_some hlt
  refine R5 ?_
  refine A4 rfl (C7 rfl K7 P8 (A0 rfl) (A0 rfl) hx qz3) ?_
  refine R2 ?_
  intro b7
  refine R9 ?_
  refine A6 (A0 rfl) ?_ ?_
  ·intro h18
   have k18 := D1 h18; try simp only [A5] at k18
   have he : toldFO l n = (x, true) := by (unfold toldFO findT; rw [Ak2 hx h18 hinv.2])
   rw [he]
   refine R7 ?_
   exact U2 rfl D3 (B8 (H1 (ys := _) 1 rfl rfl Tryz.isAgg148 P8 rfl) (B8 (A8 rfl B0) G6))
  intro h18
  have k18 := D5 h18; try simp only [A5] at k18
  refine R5 ?_
  refine E9 i (i + 1) ?_ ?_ (O4 1 ⟨rfl, rfl, rfl, rfl, rfl, trivial⟩)
  ·exact ⟨by omega, fun j y hj hy => if hji : j < i then hinv.2 j y hji hy else qz180⟩
  omega
 intro h12
 have k12 := of_decide_eq_false h12; try simp only [A5] at k12
 have hge : l.length ≤ i := by omega
 have he : toldFO l n = (zTold, false) := by (unfold toldFO findT; rw [Bi3 fun j y hy => hinv.2 j y (Nat.lt_of_lt_of_le (List.getElem?_eq_some_iff.1 hy).1 hge) hy])
 rw [he]
 refine R8 ?_
 exact U2 rfl D3 (B8 (H1 (ys := _) 0 rfl rfl Tryz.isAgg148 P8 rfl) (B8 (A8 rfl B0) G6))
theorem BZ9 (s : G2) (ho : w5 s.Cells) (hcl : s.Cells.length ≤ 400000) (hs : s.size ≤ 1048576) : B9 Tryz.prog 255 [AV.agg s.cs] (AV.bool (areHeld s)) := by
 obtain ⟨hs1, hs2, hs3, hs4, hs5⟩ := s6 hs
 refine B7 Tryz.func255 rfl Tryz.ntmps255 rfl ?_
 refine R3 ?_
 intro b1
 refine R11 ?_
 refine E2 [(1, _), (10, _), (11, _)] _ (fun (i : Nat) => i ≤ s.Held.length ∧ ∀ j, j < i → heldAt s j = true) (fun (i : Nat) => []) (fun (i : Nat) => [(12, AV.int i)]) (fun (i : Nat) => s.Held.length - i) (0) ?_ (E7 ⟨rfl, rfl, rfl, rfl, trivial⟩) ?_
 ·exact ⟨Nat.zero_le _, fun j hj => by omega⟩
 intro i hinv
 refine R5 ?_
 refine A6 (A0 rfl) ?_ ?_
 ·intro h13
  have k13 := of_decide_eq_true h13; try simp only [A5] at k13
  have hlt : i < s.Held.length := by omega
  obtain ⟨h, hx⟩ := get_some hlt
  obtain ⟨y, hy⟩ := get_some (show i - 1 < s.Held.length by omega)
  obtain ⟨g1, g2, g3, g4, g5⟩ := AK7 hs2 hx
  have hinv0 := hinv
  refine R6 ?_
  refine A4 rfl (C7 rfl I8 N8 (A0 rfl) (A0 rfl) hx qz3) ?_
  refine R2 ?_
  intro b4
  refine R7 ?_
  refine C3 rfl rfl (B2 rfl Tryz.call256 rfl (BZ8 _) (A1 (A0 rfl) A7)) ?_
  refine C3 rfl rfl (B2 rfl Tryz.call226 rfl (Ay3 _ Y0) (A1 (A0 rfl) A7)) ?_
  refine R16 ?_
  refine L2 rfl (U6 rfl rfl rfl) (fun hc => C7 rfl I8 N8 (B1 rfl hc) (B1 rfl hc) hy qz5) ?_
  refine R8 ?_
  refine A6 (A0 rfl) ?_ ?_
  ·intro h43
   have hfin : areHeld s = false := by (unfold areHeld; rw [AM6 hlt (by rw [AU3 hx hy, h43]; rfl)]; rfl)
   refine R5 ?_
   exact D4 rfl (A8 rfl qz60)
  intro h43
  refine R7 ?_
  refine A4 rfl (i6 rfl I8 N8 (A0 rfl) (A0 rfl) qz3 qz3) ?_
  refine R4 ?_
  refine E2 [(1, _), (3, _), (4, _), (10, _), (11, _), (12, _), (13, _), (14, _), (15, _), (16, _), (17, _), (18, _), (19, _), (20, _), (21, _), (27, _), (28, _), (43, _), (44, _), (45, _), (46, _), (47, _), (48, _)] _ (fun (q : Nat) => q ≤ (s.Held.take i).length ∧ ((s.Held.take i).all fun g => apart g h.Reads h.Writes) = (((s.Held.take i).drop q).all fun g => apart g h.Reads h.Writes)) (fun (q : Nat) => []) (fun (q : Nat) => [(49, AV.int q)]) (fun (q : Nat) => (s.Held.take i).length - q) (0) ?_ (E7 ⟨rfl, rfl, rfl, rfl, rfl, rfl, rfl, rfl, rfl, rfl, rfl, rfl, rfl, rfl, rfl, rfl, rfl, rfl, rfl, rfl, rfl, rfl, rfl, rfl, trivial⟩) ?_
  ·exact ⟨Nat.zero_le _, rfl⟩
  intro q hinv
  refine R5 ?_
  refine A6 (A0 rfl) ?_ ?_
  ·intro h50
   have k50 := of_decide_eq_true h50; try simp only [A5] at k50
   have hlt2 : q < (s.Held.take i).length := by (simp only [G9, A5, Int.toNat_natCast] at k50 ⊢; omega)
   obtain ⟨k, hx2⟩ := get_some hlt2
   refine R5 ?_
   refine A4 rfl (C7 rfl I8 N8 (A0 rfl) (A0 rfl) hx2 qz3) ?_
   refine R2 ?_
   intro b6
   refine R9 ?_
   refine A4 rfl (B2 rfl Tryz.call235 rfl (apart_spec _ _ _) (A1 (A0 rfl) (A1 (A0 rfl) (A1 (A0 rfl) A7)))) ?_
   refine R2 ?_
   refine A6 (A0 rfl) ?_ ?_
   ·intro h59
    have hfin : areHeld s = false := by (unfold areHeld; rw [AM6 hlt (by rw [AU3 hx hy, hinv.2, drop_some hx2, List.all_cons, show apart k h.Reads h.Writes = false by simpa using h59]; simp)]; rfl)
    refine R5 ?_
    exact D4 rfl (A8 rfl qz60)
   intro h59
   refine R5 ?_
   refine E9 q (q + 1) ?_ ?_ (O4 1 ⟨rfl, rfl, rfl, rfl, rfl, rfl, rfl, rfl, rfl, rfl, rfl, rfl, rfl, rfl, rfl, rfl, rfl, rfl, rfl, rfl, rfl, rfl, rfl, rfl, trivial⟩)
   ·exact ⟨by omega, by rw [hinv.2, drop_some hx2, List.all_cons, show apart k h.Reads h.Writes = true by simpa using h59]; rfl⟩
   omega
  intro h50
  have k50 := of_decide_eq_false h50; try simp only [A5] at k50
  have hge2 : (s.Held.take i).length ≤ q := by (simp only [G9, A5, Int.toNat_natCast] at k50 ⊢; omega)
  have hap : ((s.Held.take i).all fun g => apart g h.Reads h.Writes) = true := by (rw [hinv.2, List.drop_eq_nil_of_le hge2]; rfl)
  refine R9 ?_
  refine E2 [(1, _), (3, _), (4, _), (10, _), (11, _), (12, _), (13, _), (14, _), (15, _), (16, _), (17, _), (18, _), (19, _), (20, _), (21, _), (27, _), (28, _), (43, _), (44, _), (45, _), (46, _), (47, _), (48, _), (49, _), (50, _), (61, _), (62, _), (63, _)] _ (fun (r : Nat) => r ≤ h.Writes.length ∧ (h.Writes.all fun w => decide (lastTime s.Cells w.Key < h.Time)) = ((h.Writes.drop r).all fun w => decide (lastTime s.Cells w.Key < h.Time))) (fun (r : Nat) => []) (fun (r : Nat) => [(64, AV.int r)]) (fun (r : Nat) => h.Writes.length - r) (0) ?_ (E7 ⟨rfl, rfl, rfl, rfl, rfl, rfl, rfl, rfl, rfl, rfl, rfl, rfl, rfl, rfl, rfl, rfl, rfl, rfl, rfl, rfl, rfl, rfl, rfl, rfl, rfl, rfl, rfl, rfl, rfl, trivial⟩) ?_
  ·exact ⟨Nat.zero_le _, rfl⟩
  intro r hinv
  refine R5 ?_
  refine A6 (A0 rfl) ?_ ?_
  ·intro h65
   have k65 := of_decide_eq_true h65; try simp only [A5] at k65
   have hlt3 : r < h.Writes.length := by omega
   obtain ⟨w, hw⟩ := get_some hlt3
   refine R5 ?_
   refine A4 rfl (C7 rfl C0 E5 (A0 rfl) (A0 rfl) hw qz3) ?_
   refine R2 ?_
   intro b8
   refine R8 ?_
   refine C3 rfl rfl (B2 rfl Tryz.call237 rfl (Ac9 _ _ (by first | assumption | exact AD6 (by rw [g7]; assumption)) Y0) (A1 (A0 rfl) (A1 (A0 rfl) A7))) ?_
   refine R4 ?_
   refine A6 (A0 rfl) ?_ ?_
   ·intro h75
    have k75 := of_decide_eq_true h75; try simp only [A5] at k75
    have hfin : areHeld s = false := by (unfold areHeld; rw [AM6 hlt (by rw [AU3 hx hy, hinv.2, drop_some hw, List.all_cons, decide_eq_false (show ¬ lastTime s.Cells w.Key < h.Time by omega)]; simp)]; rfl)
    refine R5 ?_
    exact D4 rfl (A8 rfl qz60)
   intro h75
   have k75 := of_decide_eq_false h75; try simp only [A5] at k75
   refine R5 ?_
   refine E9 r (r + 1) ?_ ?_ (O4 1 ⟨rfl, rfl, rfl, rfl, rfl, rfl, rfl, rfl, rfl, rfl, rfl, rfl, rfl, rfl, rfl, rfl, rfl, rfl, rfl, rfl, rfl, rfl, rfl, rfl, rfl, rfl, rfl, rfl, rfl, trivial⟩)
   ·exact ⟨by omega, by rw [hinv.2, drop_some hw, List.all_cons, decide_eq_true (show lastTime s.Cells w.Key < h.Time by omega)]; rfl⟩
   omega
  intro h65
  have k65 := of_decide_eq_false h65; try simp only [A5] at k65
  have hge3 : h.Writes.length ≤ r := by omega
  have hlw : (h.Writes.all fun w => decide (lastTime s.Cells w.Key < h.Time)) = true := by (rw [hinv.2, List.drop_eq_nil_of_le hge3]; rfl)
  refine R5 ?_
  refine E9 i (i + 1) ?_ ?_ (O4 1 ⟨rfl, rfl, rfl, rfl, trivial⟩)
  ·exact ⟨by omega, fun j hj => if hji : j < i then hinv0.2 j hji else (by have e : j = i := qz8; subst e; rw [AU3 hx hy, h43, hap, hlw]; rfl)⟩
  omega
 intro h13
 have k13 := of_decide_eq_false h13; try simp only [A5] at k13
 have hge : s.Held.length ≤ i := by omega
 have hall : allB s.Held.length (heldAt s) = true := AW8.2 fun j hj => hinv.2 j qz8
 refine R9 ?_
 refine L4 rfl (fun hc => B2 rfl Tryz.call236 rfl (BH9 s [] hs (by (have h9 := BW1 (CB0 hall); have h8 := of_decide_eq_true hc; simp only [A5] at h8; simp only [M6]; omega))) (A1 (B1 rfl hc) (A1 O6 A7))) ?_
 refine R4 ?_
 exact D4 rfl (A8 rfl qz60)
theorem BI0 (s : G2) (hs : s.size ≤ 1048576) : B9 Tryz.prog 253 [AV.agg s.cs] (AV.bool (goodState s)) := by
 obtain ⟨hs1, hs2, hs3, hs4, hs5⟩ := s6 hs
 refine B7 Tryz.func253 rfl Tryz.ntmps253 rfl ?_
 refine R3 ?_
 intro b1
 refine R7 ?_
 refine A4 rfl (B2 rfl Tryz.call67 rfl (Ac8 _) (A1 (A0 rfl) A7)) ?_
 refine R4 ?_
 refine U1 rfl (fun hc => B2 rfl Tryz.call238 rfl (Ay1 _ Y0) (A1 (B1 rfl hc) A7)) ?_
 refine R4 ?_
 refine U1 rfl (fun hc => B2 rfl Tryz.call255 rfl (BZ9 s (AD6 (by have h9 := hc; simp at h9; rw [g7]; exact h9.2)) (by have h9 := hc; simp at h9; have h8 := (g8 (by rw [g7]; exact h9.2)).1; omega) hs) (A1 (B1 rfl hc) A7)) ?_
 refine R9 ?_
 refine A6 (A0 rfl) ?_ ?_
 ·intro h29
  have hfin : goodState s = false := by (unfold goodState; simp only [Bool.or_eq_true, Bool.not_eq_true', decide_eq_true_eq, A5] at h29; rcases h29 with ((h | h) | h) | h; (rw [h]; rfl); (rw [g7, h]; simp); (rw [h]; simp); (rw [decide_eq_false (show ¬ s.Told.length ≤ 60 by omega)]; simp))
  refine R5 ?_
  exact D4 rfl (A8 rfl AY3)
 intro h29
 simp only [Bool.or_eq_false_iff, Bool.not_eq_false', decide_eq_false_iff_not, A5] at h29
 obtain ⟨⟨⟨q1, q2⟩, q3⟩, q4⟩ := h29
 have hco := AD6 (by rw [g7]; exact q2)
 have hgs : goodState s = ((s.Cells.all fun c => decide (lastTime s.Cells c.Key ≤ s.Floor)) && allB s.Told.length (toldAt s)) := by (unfold goodState; rw [q1, g7, q2, q3, decide_eq_true (show s.Told.length ≤ 60 by omega)]; simp)
 refine R10 ?_
 refine E2 [(1, _), (31, _), (32, _)] _ (fun (i : Nat) => i ≤ s.Cells.length ∧ (s.Cells.all fun c => decide (lastTime s.Cells c.Key ≤ s.Floor)) = ((s.Cells.drop i).all fun c => decide (lastTime s.Cells c.Key ≤ s.Floor))) (fun (i : Nat) => []) (fun (i : Nat) => [(33, AV.int i)]) (fun (i : Nat) => s.Cells.length - i) (0) ?_ (E7 ⟨rfl, rfl, rfl, rfl, trivial⟩) ?_
 ·exact ⟨Nat.zero_le _, rfl⟩
 intro i hinv
 refine R5 ?_
 refine A6 (A0 rfl) ?_ ?_
 ·intro h34
  have k34 := of_decide_eq_true h34; try simp only [A5] at k34
  have hlt : i < s.Cells.length := by omega
  obtain ⟨c, hx⟩ := get_some hlt
  refine R5 ?_
  refine A4 rfl (C7 rfl H5 P2 (A0 rfl) (A0 rfl) hx qz3) ?_
  refine R2 ?_
  intro b4
  refine R8 ?_
  refine C3 rfl rfl (B2 rfl Tryz.call237 rfl (Ac9 _ _ (by first | assumption | exact AD6 (by rw [g7]; assumption)) Y0) (A1 (A0 rfl) (A1 (A0 rfl) A7))) ?_
  refine R4 ?_
  refine A6 (A0 rfl) ?_ ?_
  ·intro h44
   have k44 := of_decide_eq_true h44; try simp only [A5] at k44
   have hfin : goodState s = false := by (rw [hgs, hinv.2, drop_some hx, List.all_cons, decide_eq_false (show ¬ lastTime s.Cells c.Key ≤ s.Floor by omega)]; rfl)
   refine R5 ?_
   exact D4 rfl (A8 rfl AY3)
  intro h44
  have k44 := of_decide_eq_false h44; try simp only [A5] at k44
  refine R5 ?_
  refine E9 i (i + 1) ?_ ?_ (O4 1 ⟨rfl, rfl, rfl, rfl, trivial⟩)
  ·exact ⟨by omega, by rw [hinv.2, drop_some hx, List.all_cons, decide_eq_true (show lastTime s.Cells c.Key ≤ s.Floor by omega)]; rfl⟩
  omega
 intro h34
 have k34 := of_decide_eq_false h34; try simp only [A5] at k34
 have hge : s.Cells.length ≤ i := by omega
 have hgs2 : goodState s = allB s.Told.length (toldAt s) := by (rw [hgs, hinv.2, List.drop_eq_nil_of_le hge]; rfl)
 refine R10 ?_
 refine E2 [(1, _), (47, _), (48, _)] _ (fun (q : Nat) => q ≤ s.Told.length ∧ ∀ j, j < q → toldAt s j = true) (fun (q : Nat) => []) (fun (q : Nat) => [(49, AV.int q)]) (fun (q : Nat) => s.Told.length - q) (0) ?_ (E7 ⟨rfl, rfl, rfl, rfl, trivial⟩) ?_
 ·exact ⟨Nat.zero_le _, fun j hj => by omega⟩
 intro q hinv
 refine R5 ?_
 refine A6 (A0 rfl) ?_ ?_
 ·intro h50
  have k50 := of_decide_eq_true h50; try simp only [A5] at k50
  have hlt : q < s.Told.length := by omega
  obtain ⟨t, hx⟩ := get_some hlt
  obtain ⟨y, hy⟩ := get_some (show q - 1 < s.Told.length by omega)
  refine R6 ?_
  refine A4 rfl (C7 rfl K7 P8 (A0 rfl) (A0 rfl) hx qz3) ?_
  refine R2 ?_
  intro b6
  refine R8 ?_
  refine C3 rfl rfl (B2 rfl Tryz.call30 rfl (M9 _ _ _) (A1 (A0 rfl) (A1 D8 (A1 D8 A7)))) ?_
  refine R9 ?_
  refine L2 rfl (U6 rfl rfl rfl) (fun hc => C7 rfl K7 P8 (B1 rfl hc) (B1 rfl hc) hy qz5) ?_
  refine R15 ?_
  refine L2 rfl (U6 rfl rfl rfl) (fun hc => B2 rfl Tryz.call30 rfl (M9 _ _ _) (A1 (B1 rfl hc) (A1 D8 (A1 (B1 rfl hc) A7)))) ?_
  refine R14 ?_
  refine A6 (A0 rfl) ?_ ?_
  ·intro h95
   have hfin : goodState s = false := by (rw [hgs2]; exact AM6 hlt (by rw [Ak1 hx hy, h95]; rfl))
   refine R5 ?_
   exact D4 rfl (A8 rfl AY3)
  intro h95
  refine R6 ?_
  refine A4 rfl (B2 rfl Tryz.call219 rfl (AE0 _ _ Y0) (A1 (A0 rfl) (A1 (A0 rfl) A7))) ?_
  refine R4 ?_
  intro b7
  refine R7 ?_
  refine A6 (A0 rfl) ?_ ?_
  ·intro h103
   have hfin : goodState s = false := by (rw [hgs2]; exact AM6 hlt (by rw [Ak1 hx hy, ← Ar0, h103]; simp))
   refine R5 ?_
   exact D4 rfl (A8 rfl AY3)
  intro h103
  refine R5 ?_
  refine E9 q (q + 1) ?_ ?_ (O4 2 ⟨rfl, rfl, rfl, rfl, trivial⟩)
  ·exact ⟨by omega, fun j hj => if hji : j < q then hinv.2 j hji else (by have e : j = q := qz8; subst e; rw [Ak1 hx hy, h95, ← Ar0, h103]; rfl)⟩
  omega
 intro h50
 have k50 := of_decide_eq_false h50; try simp only [A5] at k50
 have hge : s.Told.length ≤ q := by omega
 have hfin : goodState s = true := by (rw [hgs2]; exact AW8.2 fun j hj => hinv.2 j qz8)
 refine R6 ?_
 exact D4 rfl (A8 rfl AY3)
end Go.Proofs.YtcfkbhnpfjjmjaaGreat
namespace Go.Proofs.YtcfkbhnpfjjmjaaGreat
open Go Go.AV Go.M
attribute [local irreducible] OpW OpA OpS AWP B9 J2 C9 OpE RetOk H0 I6 Le Ev F1 J8
theorem AE1 (l : List Int) (hl : l.length ≤ 4194304) : C9 Tryz.prog 33 [ints l] [] (fun _ : Value => True) (fun v => [.arr v 3 1 (l.map fun x => [AV.int x])]) (fun v => AV.is v) := by
  refine C6 Tryz.func33 rfl Tryz.ntmps33 rfl ?_
  refine R2 ?_
  refine A4 rfl (D6 rfl G8) ?_
  refine R3 ?_
  refine N3 rfl rfl rfl rfl B4 B6 ?_
  intro v3
  refine R1 ?_
  refine F6 (by' := 8) 0 rfl rfl rfl rfl B4 Tryz.type3 rfl rfl rfl rfl rfl rfl (A0 rfl) (A0 rfl) rfl qz3 ?_
  intro v5_1
  refine R3 ?_
  exact I0 [0] v5_1 (trivial) rfl B0 (E4 rfl (A8 rfl V1))
end Go.Proofs.YtcfkbhnpfjjmjaaGreat
namespace Go.M
open Go.AV
theorem Aa0 {α : Type} {l : List α} {i : Nat} {x : α} (hx : l[i]? = some x) : l.drop i = x :: l.drop (i + 1) := by
  obtain ⟨h, e⟩ := List.getElem?_eq_some_iff.1 hx
  rw [← e]; exact List.drop_eq_getElem_cons h
theorem takeX {α : Type} {l : List α} {i : Nat} {x : α} (hx : l[i]? = some x) : l.take (i + 1) = l.take i ++ [x] := by rw [List.take_add_one, hx]; rfl
theorem BW2 {l : List G5} {i : Nat} {x : G5} (hx : l[i]? = some x) : AA7 (l.take i) (l.drop i) = ((Ab1 x && !((l.take i).any fun h => h.Key == x.Key)) && AA7 (l.take (i + 1)) (l.drop (i + 1))) := by rw [Aa0 hx, takeX hx]; rfl
theorem Bi4 {l : List G5} {i : Nat} (h : l.length ≤ i) : AA7 (l.take i) (l.drop i) = true := by rw [List.drop_eq_nil_of_le h]; rfl
theorem idx_step {m : Int} {o : List Int} {i : Nat} {n : Int} (hx : o[i]? = some n) : idxF9 m (o.take i) (o.drop i) = ((within n 0 (m - 1) && !((o.take i).any fun x => n == x)) && idxF9 m (o.take (i + 1)) (o.drop (i + 1))) := by rw [Aa0 hx, takeX hx]; rfl
theorem idx_end {m : Int} {o : List Int} {i : Nat} (h : o.length ≤ i) : idxF9 m (o.take i) (o.drop i) = true := by rw [List.drop_eq_nil_of_le h]; rfl
theorem Ay6 {h : List C2} {o : List Int} {i : Nat} {n : Int} (hx : o[i]? = some n) : keepsO h (o.drop i) = (((o.drop (i + 1)).all fun m => !ahead (deedAt h m) (deedAt h n)) && keepsO h (o.drop (i + 1))) := by rw [Aa0 hx]; rfl
theorem CB1 {h : List C2} {o : List Int} {i : Nat} (hh : o.length ≤ i) : keepsO h (o.drop i) = true := by rw [List.drop_eq_nil_of_le hh]; rfl
theorem BW3 {α : Type} {p : α → Bool} {l : List α} {i : Nat} {x : α} (hx : l[i]? = some x) : (l.drop i).any p = (p x || (l.drop (i + 1)).any p) := by rw [Aa0 hx, List.any_cons]
theorem Ar1 {α : Type} {p : α → Bool} {l : List α} {i : Nat} {x : α} (hx : l[i]? = some x) : (l.drop i).all p = (p x && (l.drop (i + 1)).all p) := by rw [Aa0 hx, List.all_cons]
theorem kcomm (a b : Str) : (a == b) = (b == a) := by rw [Bool.eq_iff_iff, beq_iff_eq, beq_iff_eq]; exact eq_comm
theorem Ar2 {d : C2} (h : d.size ≤ 1048576) : sizeL G5.size d.Got ≤ 1048576 ∧ sizeL A9.size d.Writes ≤ 1048576 ∧ d.Got.length ≤ 1048576 ∧ d.Writes.length ≤ 1048576 := by
  have h1 := L3 (f := G5.size) (l := d.Got)
  have h2 := L3 (f := A9.size) (l := d.Writes)
  unfold C2.size at h
  omega
theorem Bi5 {l : List G5} {i : Nat} {x : G5} (hx : l[i]? = some x) : x.Key.length ≤ sizeL G5.size l ∧ x.Val.length ≤ sizeL G5.size l := by
  have h := W4 (f := G5.size) hx
  have h2 : x.size = x.Key.length + x.Val.length := rfl
  omega
end Go.M
namespace Go.Proofs.YtcfkbhnpfjjmjaaGreat
open Go Go.AV Go.M
attribute [local irreducible] OpW OpA OpS AWP B9 J2 C9 OpE RetOk H0 I6 Le Ev F1 J8
theorem Bp4 (n : Int) : B9 Tryz.prog 63 [AV.int n] (AV.bool (isTxn n)) := by
  refine B7 Tryz.func63 rfl Tryz.ntmps63 rfl ?_
  refine R7 ?_
  refine A4 rfl (B2 rfl Tryz.call25 rfl (s5 _ _ _) (A1 (A0 rfl) (A1 D8 (A1 D8 A7)))) ?_
  refine R3 ?_
  exact D4 rfl (A8 rfl V1)
theorem CJ1 (l : List Int) (n : Int) : B9 Tryz.prog 58 [ints l, AV.int n] (AV.bool (l.any fun y => n == y)) := by
 refine B7 Tryz.func58 rfl Tryz.ntmps58 rfl ?_
 refine S1 (t := 0) rfl fun hl => ?_
 try simp only [A5] at hl
 refine R12 ?_
 refine E2 [(1, _), (7, _), (8, _)] _ (fun (i : Nat) => i ≤ l.length ∧ (l.any fun y => n == y) = ((l.drop i).any fun y => n == y)) (fun (i : Nat) => []) (fun (i : Nat) => [(9, AV.int i)]) (fun (i : Nat) => l.length - i) (0) ?_ (E7 ⟨rfl, rfl, rfl, rfl, trivial⟩) ?_
 ·exact ⟨Nat.zero_le _, rfl⟩
 intro i hinv
 refine R5 ?_
 refine A6 (A0 rfl) ?_ ?_
 ·intro h10
  have k10 := of_decide_eq_true h10; try simp only [A5] at k10
  have hlt : i < l.length := by omega
  obtain ⟨x, hx⟩ := get_some hlt
  refine R5 ?_
  refine A4 rfl (C7 rfl B4 B6 (A0 rfl) (A0 rfl) hx qz3) ?_
  refine R9 ?_
  refine A6 (A0 rfl) ?_ ?_
  ·intro h15
   have k15 := D1 h15; try simp only [A5] at k15
   refine R5 ?_
   exact D4 rfl (A8 rfl qz162)
  intro h15
  have k15 := D5 h15; try simp only [A5] at k15
  refine R5 ?_
  refine E9 i (i + 1) ?_ ?_ (E7 ⟨rfl, rfl, rfl, rfl, trivial⟩)
  ·exact ⟨by omega, by rw [hinv.2, Aa0 hx, List.any_cons, show (n == x) = false from by simpa using Ne.symm k15]; rfl⟩
  omega
 intro h10
 have k10 := of_decide_eq_false h10; try simp only [A5] at k10
 have hge : l.length ≤ i := by omega
 refine R6 ?_
 exact D4 rfl (A8 rfl qz162)
theorem Bi6 (g h : G5) : B9 Tryz.prog 95 [AV.agg h.cs, AV.eptr g.cs] (AV.bool (h.Key == g.Key)) := by
  refine B7 Tryz.func95 rfl Tryz.ntmps95 rfl ?_
  refine R3 ?_
  intro b2
  refine R12 ?_
  exact D4 rfl (A8 rfl V1)
theorem Bp5 (l : List G5) (hs : sizeL G5.size l ≤ 4194304) : B9 Tryz.prog 65 [AV.list 3 (l.map G5.cs)] (AV.bool (AB3 l)) := by
 have hl := L3 (f := G5.size) (l := l)
 refine B7 Tryz.func65 rfl Tryz.ntmps65 rfl ?_
 refine R12 ?_
 refine E2 [(0, _), (5, _), (6, _)] _ (fun (i : Nat) => i ≤ l.length ∧ AA7 [] l = AA7 (l.take i) (l.drop i)) (fun (i : Nat) => []) (fun (i : Nat) => [(7, AV.int i)]) (fun (i : Nat) => l.length - i) (0) ?_ (H7 B0 ⟨rfl, rfl, rfl, rfl, trivial⟩) ?_
 ·exact ⟨Nat.zero_le _, rfl⟩
 intro i hinv
 refine R5 ?_
 refine A6 (A0 rfl) ?_ ?_
 ·intro h8
  have k8 := of_decide_eq_true h8; try simp only [A5] at k8
  have hlt : i < l.length := by (simpa using h8)
  obtain ⟨x, hx⟩ := get_some hlt
  have hxs := Bi5 hx
  have hgs := BW2 hx
  refine R6 ?_
  refine A4 rfl (C7 rfl J3 N5 (A0 rfl) (A0 rfl) hx qz3) ?_
  refine R2 ?_
  intro b4
  refine R7 ?_
  refine A4 rfl (B2 rfl Tryz.call93 rfl (Aq4 _ qz8) (A1 (A0 rfl) A7)) ?_
  refine R7 ?_
  refine U1 rfl (fun hc => B2 rfl Tryz.call94 rfl (Al8 _ _ qz8) (A1 (B1 rfl hc) (A1 (B1 rfl hc) A7))) ?_
  refine R5 ?_
  refine U1 rfl (fun hc => i6 rfl J3 N5 (B1 rfl hc) (B1 rfl hc) qz5 qz5) ?_
  refine U1 rfl (fun hc => BE6 rfl rfl (A1 (A0 rfl) A7)) ?_
  refine U1 rfl (fun hc => AK1 rfl Tryz.call86 rfl (AM9 (l.take i) (fun _ => True) (fun h => h.Key == x.Key) (fun _ _ => trivial)) (X3 _) (T0 (evb (B1 rfl hc)) (T0 (AT5 (BA8 0 (B1 rfl hc) rfl) (Ag8 Tryz.call95 (fun g (_ : True) => Bi6 _ g))) f8))) ?_
  refine R2 ?_
  refine A6 (A0 rfl) ?_ ?_
  ·intro h31
   have hn : (Ab1 x && !((l.take i).any fun h => h.Key == x.Key)) = false := qz140
   have he : AB3 l = false := (by unfold AB3; rw [hinv.2, hgs, hn]; rfl)
   rw [he]
   refine R5 ?_
   exact D4 rfl (A8 rfl qz85)
  intro h31
  have hy : (Ab1 x && !((l.take i).any fun h => h.Key == x.Key)) = true := qz140
  refine R5 ?_
  refine E9 i (i + 1) ?_ ?_ (Le.trans (C1 [0] rfl) (E0 1 B0 ⟨rfl, rfl, rfl, rfl, trivial⟩))
  ·exact ⟨by omega, by rw [hinv.2, hgs, hy, Bool.true_and]⟩
  omega
 intro h8
 have k8 := of_decide_eq_false h8; try simp only [A5] at k8
 have hge : l.length ≤ i := by (simpa using h8)
 have hfin := hinv.2
 rw [Bi4 hge] at hfin
 refine R9 ?_
 exact D4 rfl (A8 rfl qz85)
theorem Bp6 (l : List G5) (hs : sizeL G5.size l ≤ 4194304) : B9 Tryz.prog 68 [AV.list 3 (l.map G5.cs)] (AV.bool (AB3 l)) := by
 have hl := L3 (f := G5.size) (l := l)
 refine B7 Tryz.func68 rfl Tryz.ntmps68 rfl ?_
 refine R12 ?_
 refine E2 [(0, _), (7, _), (8, _)] _ (fun (i : Nat) => i ≤ l.length ∧ AA7 [] l = AA7 (l.take i) (l.drop i)) (fun (i : Nat) => []) (fun (i : Nat) => [(9, AV.int i)]) (fun (i : Nat) => l.length - i) (0) ?_ (H7 B0 ⟨rfl, rfl, rfl, rfl, trivial⟩) ?_
 ·exact ⟨Nat.zero_le _, rfl⟩
 intro i hinv
 refine R5 ?_
 refine A6 (A0 rfl) ?_ ?_
 ·intro h10
  have k10 := of_decide_eq_true h10; try simp only [A5] at k10
  have hlt : i < l.length := by (simpa using h10)
  obtain ⟨x, hx⟩ := get_some hlt
  have hxs := Bi5 hx
  have hgs := BW2 hx
  have hi0 := hinv.2
  refine R6 ?_
  refine A4 rfl (C7 rfl J3 N5 (A0 rfl) (A0 rfl) hx qz3) ?_
  refine R2 ?_
  intro b4
  refine R8 ?_
  refine A4 rfl (B2 rfl Tryz.call99 rfl (AA0 _ qz8) (A1 (A0 rfl) A7)) ?_
  refine R4 ?_
  refine U1 rfl (fun hc => B2 rfl Tryz.call100 rfl (AU1 _ qz8) (A1 (B1 rfl hc) A7)) ?_
  refine R9 ?_
  refine c7 rfl rfl (U6 rfl rfl rfl) (fun hc => Be0 rfl (B1 rfl hc) (L5 (l := []) rfl)) ?_
  refine R3 ?_
  refine A6 (A0 rfl) ?_ ?_
  ·intro h33
   have hn : Ab1 x = false := qz149
   have he : AB3 l = false := (by unfold AB3; rw [hinv.2, hgs, hn]; rfl)
   rw [he]
   refine R5 ?_
   exact D4 rfl (A8 rfl qz85)
  intro h33
  have hy : Ab1 x = true := qz149
  refine R5 ?_
  refine A4 rfl (i6 rfl J3 N5 (A0 rfl) (A0 rfl) qz3 qz3) ?_
  refine R4 ?_
  refine E2 [(0, _), (3, _), (4, _), (7, _), (8, _), (9, _), (10, _), (11, _), (12, _), (13, _), (14, _), (15, _), (16, _), (17, _), (18, _), (23, _), (24, _), (33, _), (34, _), (35, _), (36, _), (37, _)] _ (fun (j : Nat) => j ≤ (l.take i).length ∧ ((l.take i).any fun h => h.Key == x.Key) = (((l.take i).drop j).any fun h => h.Key == x.Key)) (fun (j : Nat) => []) (fun (j : Nat) => [(38, AV.int j)]) (fun (j : Nat) => (l.take i).length - j) (0) ?_ (H7 B0 ⟨rfl, rfl, rfl, rfl, rfl, rfl, rfl, rfl, rfl, rfl, rfl, rfl, rfl, rfl, rfl, rfl, rfl, rfl, rfl, rfl, rfl, rfl, rfl, trivial⟩) ?_
  ·exact ⟨Nat.zero_le _, rfl⟩
  intro j hinv
  refine R5 ?_
  refine A6 (A0 rfl) ?_ ?_
  ·intro h39
   have k39 := of_decide_eq_true h39; try simp only [A5] at k39
   have hlt1 : j < (l.take i).length := by (simpa using h39)
   obtain ⟨z, hz⟩ := get_some hlt1
   refine R5 ?_
   refine A4 rfl (C7 rfl J3 N5 (A0 rfl) (A0 rfl) hz qz3) ?_
   refine R2 ?_
   intro b6
   refine R10 ?_
   refine A6 (A0 rfl) ?_ ?_
   ·intro h46
    have he : AB3 l = false := (by unfold AB3; rw [hi0, hgs, hinv.2, BW3 hz, kcomm z.Key, h46, Bool.true_or, Bool.not_true, Bool.and_false]; rfl)
    rw [he]
    refine R5 ?_
    exact D4 rfl (A8 rfl qz85)
   intro h46
   refine R5 ?_
   refine E9 j (j + 1) ?_ ?_ (Le.trans (C1 [0] rfl) (E0 1 B0 ⟨rfl, rfl, rfl, rfl, rfl, rfl, rfl, rfl, rfl, rfl, rfl, rfl, rfl, rfl, rfl, rfl, rfl, rfl, rfl, rfl, rfl, rfl, rfl, trivial⟩))
   ·exact ⟨by omega, by rw [hinv.2, BW3 hz, kcomm z.Key, h46]; rfl⟩
   omega
  intro h39
  have k39 := of_decide_eq_false h39; try simp only [A5] at k39
  have hge1 : (l.take i).length ≤ j := by (simpa using h39)
  have hj3 : ((l.take i).any fun h => h.Key == x.Key) = false := (by rw [hinv.2, List.drop_eq_nil_of_le hge1]; rfl)
  refine R5 ?_
  refine E9 i (i + 1) ?_ ?_ (Le.trans (C1 [0] rfl) (E0 1 B0 ⟨rfl, rfl, rfl, rfl, trivial⟩))
  ·exact ⟨by omega, by rw [hi0, hgs, hy, hj3]; rfl⟩
  omega
 intro h10
 have k10 := of_decide_eq_false h10; try simp only [A5] at k10
 have hge : l.length ≤ i := by (simpa using h10)
 have hfin := hinv.2
 rw [Bi4 hge] at hfin
 refine R9 ?_
 exact D4 rfl (A8 rfl qz85)
theorem Bp7 (d : C2) (hs : d.size ≤ 1048576) : B9 Tryz.prog 41 [AV.agg d.cs] (AV.bool (d4 d)) := by
  obtain ⟨hs1, hs2, hs3, hs4⟩ := Ar2 hs
  refine B7 Tryz.func41 rfl Tryz.ntmps41 rfl ?_
  refine R3 ?_
  intro b1
  refine R6 ?_
  refine A4 rfl (B2 rfl Tryz.call63 rfl (Bp4 _) (A1 (A0 rfl) A7)) ?_
  refine R3 ?_
  refine L4 rfl (fun hc => B2 rfl Tryz.call25 rfl (s5 _ _ _) (A1 (B1 rfl hc) (A1 D8 (A1 D8 A7)))) ?_
  refine R10 ?_
  refine c7 rfl rfl (Ag1 rfl rfl rfl) (fun hc => Ad3 rfl (B1 rfl hc) D8 (by have hc2 := hc; simp [within] at hc2; omega)) ?_
  refine c7 rfl rfl (Ag1 rfl rfl rfl) (fun hc => B2 rfl Tryz.call25 rfl (s5 _ _ _) (A1 (B1 rfl hc) (A1 (B1 rfl hc) (A1 D8 A7)))) ?_
  refine R20 ?_
  refine L4 rfl (fun hc => B2 rfl Tryz.call64 rfl (Bo9 _) (A1 (B1 rfl hc) A7)) ?_
  refine R4 ?_
  refine L4 rfl (fun hc => B2 rfl Tryz.call65 rfl (Bp5 _ Y0) (A1 (B1 rfl hc) A7)) ?_
  refine R4 ?_
  refine L4 rfl (fun hc => B2 rfl Tryz.call66 rfl (BH4 _ Y0) (A1 (B1 rfl hc) A7)) ?_
  refine R4 ?_
  exact D4 rfl (A8 rfl (by exact congrArg AV.bool (by unfold d4; simp only [A5])))
theorem Bi7 (d : C2) (hs : d.size ≤ 1048576) : B9 Tryz.prog 42 [AV.agg d.cs] (AV.bool (d4 d)) := by
 obtain ⟨hs1, hs2, hs3, hs4⟩ := Ar2 hs
 have hw : within d.End (d.Begin + 1) 1000000 = (decide (d.End > d.Begin) && decide (d.End ≤ 1000000)) := by unfold within; congr 1
 refine B7 Tryz.func42 rfl Tryz.ntmps42 rfl ?_
 refine R3 ?_
 intro b1
 refine R19 ?_
 refine A6 (A0 rfl) ?_ ?_
 ·intro h15
  simp only [A5] at h15
  have hq : (!d.Look || (d.Yes && ((d.Writes.length : Int) == 0))) = false := (by cases h1 : d.Look <;> cases h2 : d.Yes <;> simp_all <;> (first | omega | (intro e; rw [e] at h15; simp at h15)))
  have he : d4 d = false := (by unfold d4; simp only [hq, Bool.and_false, Bool.false_and])
  rw [he]
  refine R5 ?_
  exact D4 rfl (A8 rfl qz170)
 intro h15
 simp only [A5] at h15
 have hq : (!d.Look || (d.Yes && ((d.Writes.length : Int) == 0))) = true := (by cases h1 : d.Look <;> cases h2 : d.Yes <;> simp_all; try omega)
 refine R5 ?_
 refine A4 rfl (B2 rfl Tryz.call30 rfl (M9 _ _ _) (A1 (A0 rfl) (A1 D8 (A1 D8 A7)))) ?_
 refine R3 ?_
 refine L4 rfl (fun hc => B2 rfl Tryz.call30 rfl (M9 _ _ _) (A1 (B1 rfl hc) (A1 D8 (A1 D8 A7)))) ?_
 refine R21 ?_
 refine L4 rfl (fun hc => B2 rfl Tryz.call67 rfl (Ac8 _) (A1 (B1 rfl hc) A7)) ?_
 refine R4 ?_
 refine L4 rfl (fun hc => B2 rfl Tryz.call68 rfl (Bp6 _ Y0) (A1 (B1 rfl hc) A7)) ?_
 refine R4 ?_
 refine L4 rfl (fun hc => B2 rfl Tryz.call69 rfl (Am1 _ Y0) (A1 (B1 rfl hc) A7)) ?_
 refine R4 ?_
 exact D4 rfl (A8 rfl qz170)
theorem CB2 (a b : C2) : B9 Tryz.prog 27 [AV.agg a.cs, AV.agg b.cs] (AV.bool (Go.M.ahead a b)) := by
  refine B7 Tryz.func27 rfl Tryz.ntmps27 rfl ?_
  refine R3 ?_
  intro b2
  refine R1 ?_
  intro b3
  refine R17 ?_
  exact D4 rfl (A8 rfl B0)
end Go.Proofs.YtcfkbhnpfjjmjaaGreat
namespace Go.M
open Go.AV
def yesTo (h : List C2) (i : Nat) : List Int := (List.range i).filterMap fun j : Nat => if (deedAt h (Int.ofNat j)).Yes = true then some (Int.ofNat j) else none
theorem BW4 (h : List C2) : yesTo h h.length = d5 h := rfl
theorem Ay7 {h : List C2} {i : Nat} {d : C2} (hx : h[i]? = some d) : deedAt h (i : Int) = d := by unfold deedAt; rw [Int.toNat_natCast, hx]; rfl
theorem Aa1 {h : List C2} {i : Nat} {d : C2} (hx : h[i]? = some d) (hy : d.Yes = true) : yesTo h (i + 1) = yesTo h i ++ [(i : Int)] := by
  unfold yesTo
  rw [List.range_succ, List.filterMap_append, List.filterMap_cons, List.filterMap_nil]
  rw [show deedAt h (Int.ofNat i) = d from Ay7 hx, if_pos hy]; rfl
theorem Ak3 {h : List C2} {i : Nat} {d : C2} (hx : h[i]? = some d) (hy : d.Yes = false) : yesTo h (i + 1) = yesTo h i := by
  unfold yesTo
  rw [List.range_succ, List.filterMap_append, List.filterMap_cons, List.filterMap_nil]
  rw [show deedAt h (Int.ofNat i) = d from Ay7 hx, if_neg (by rw [hy]; decide)]; exact List.append_nil _
theorem BW5 (h : List C2) (i : Nat) : (yesTo h i).length ≤ i := by
  unfold yesTo
  have := List.length_filterMap_le (fun j : Nat => if (deedAt h (Int.ofNat j)).Yes = true then some (Int.ofNat j) else none) (List.range i)
  rw [List.length_range] at this
  exact this
theorem hist_all {h : List C2} : (h.any fun d => !d4 d) = !(h.all d4) := by rw [List.not_all_eq_any_not]
theorem BW6 {h : List C2} {i : Nat} {d : C2} (hx : h[i]? = some d) : (h.drop i).all d4 = (d4 d && (h.drop (i + 1)).all d4) := Ar1 hx
end Go.M
namespace Go.Proofs.YtcfkbhnpfjjmjaaGreat
open Go Go.AV Go.M
attribute [local irreducible] OpW OpA OpS AWP B9 J2 C9 OpE RetOk H0 I6 Le Ev F1 J8
theorem BP4 (d : C2) (hs : d.size ≤ 1048576) : B9 Tryz.prog 72 [AV.agg d.cs] (AV.bool (!d4 d)) := by
  refine B7 Tryz.func72 rfl Tryz.ntmps72 rfl ?_
  refine R3 ?_
  intro b1
  refine R5 ?_
  refine A4 rfl (B2 rfl Tryz.call41 rfl (Bp7 _ Y0) (A1 (A0 rfl) A7)) ?_
  refine R4 ?_
  exact D4 rfl (A8 rfl V1)
theorem AA2 (h : List C2) (hs : ∀ d ∈ h, d.size ≤ 1048576) : B9 Tryz.prog 44 [AV.list 8 (h.map C2.cs)] (AV.bool (goodHist h)) := by
  refine B7 Tryz.func44 rfl Tryz.ntmps44 rfl ?_
  refine R11 ?_
  refine L4 rfl (fun hc => B2 rfl Tryz.call71 rfl (Ae4 h (fun d => d.size ≤ 1048576) (fun d => !d4 d) hs) (A1 (B1 rfl hc) (A1 (BN9 Tryz.call72 (fun d (p : d.size ≤ 1048576) => BP4 d p)) A7))) ?_
  refine R5 ?_
  exact D4 rfl (A8 rfl (by exact congrArg AV.bool (by unfold goodHist; rw [hist_all, Bool.not_not, A5])))
theorem Ar3 (h : List C2) (hs : ∀ d ∈ h, d.size ≤ 1048576) : B9 Tryz.prog 48 [AV.list 8 (h.map C2.cs)] (AV.bool (goodHist h)) := by
 refine B7 Tryz.func48 rfl Tryz.ntmps48 rfl ?_
 refine S1 (t := 0) rfl fun hl => ?_
 try simp only [A5] at hl
 refine R12 ?_
 refine E2 [(0, _), (5, _), (6, _)] _ (fun (i : Nat) => i ≤ h.length ∧ h.all d4 = (h.drop i).all d4) (fun (i : Nat) => []) (fun (i : Nat) => [(7, AV.int i)]) (fun (i : Nat) => h.length - i) (0) ?_ (H7 B0 ⟨rfl, rfl, rfl, rfl, trivial⟩) ?_
 ·exact ⟨Nat.zero_le _, rfl⟩
 intro i hinv
 refine R5 ?_
 refine A6 (A0 rfl) ?_ ?_
 ·intro h8
  have k8 := of_decide_eq_true h8; try simp only [A5] at k8
  have hlt : i < h.length := by (simpa using h8)
  obtain ⟨x, hx⟩ := get_some hlt
  have hxs := hs x (C4 hx)
  refine R5 ?_
  refine A4 rfl (C7 rfl F8 J4 (A0 rfl) (A0 rfl) hx qz3) ?_
  refine R2 ?_
  intro b4
  refine R5 ?_
  refine A4 rfl (B2 rfl Tryz.call42 rfl (Bi7 _ Y0) (A1 (A0 rfl) A7)) ?_
  refine R2 ?_
  refine A6 (A0 rfl) ?_ ?_
  ·intro h13
   have he : goodHist h = false := (by unfold goodHist; rw [hinv.2, BW6 hx, show d4 x = false by simpa using h13, Bool.false_and, Bool.and_false])
   rw [he]
   refine R5 ?_
   exact D4 rfl (A8 rfl qz186)
  intro h13
  have hd1 : d4 x = true := (by simpa using h13)
  refine R5 ?_
  refine E9 i (i + 1) ?_ ?_ (Le.trans (C1 [0] rfl) (E0 1 B0 ⟨rfl, rfl, rfl, rfl, trivial⟩))
  ·exact ⟨by omega, by rw [hinv.2, BW6 hx, hd1, Bool.true_and]⟩
  omega
 intro h8
 have k8 := of_decide_eq_false h8; try simp only [A5] at k8
 have hge : h.length ≤ i := by (simpa using h8)
 have hfin := hinv.2
 rw [List.drop_eq_nil_of_le hge] at hfin
 refine R9 ?_
 exact D4 rfl (A8 rfl qz186)
theorem Ae6 (h : List C2) (o : List Int) (hs : ∀ d ∈ h, d.size ≤ 1048576) (hl : h.length ≤ 4611686018427387904) : B9 Tryz.prog 24 [AV.list 8 (h.map C2.cs), ints o] (AV.bool (n2 h o)) := by
 refine B7 Tryz.func24 rfl Tryz.ntmps24 rfl ?_
 refine S1 (t := 1) rfl fun hol => ?_
 try simp only [A5] at hol
 refine R12 ?_
 refine E2 [(0, _), (1, _), (7, _), (8, _)] _ (fun (i : Nat) => i ≤ o.length ∧ idxF9 (h.length : Int) [] o = idxF9 (h.length : Int) (o.take i) (o.drop i)) (fun (i : Nat) => []) (fun (i : Nat) => [(9, AV.int i)]) (fun (i : Nat) => o.length - i) (0) ?_ (H7 B0 ⟨rfl, rfl, rfl, rfl, rfl, trivial⟩) ?_
 ·exact ⟨Nat.zero_le _, rfl⟩
 intro i hinv
 refine R5 ?_
 refine A6 (A0 rfl) ?_ ?_
 ·intro h10
  have k10 := of_decide_eq_true h10; try simp only [A5] at k10
  have hlt : i < o.length := by (simpa using h10)
  obtain ⟨x, hx⟩ := get_some hlt
  have hst := idx_step (m := (h.length : Int)) hx
  refine R6 ?_
  refine A4 rfl (C7 rfl B4 B6 (A0 rfl) (A0 rfl) hx qz3) ?_
  refine R10 ?_
  refine A4 rfl (B2 rfl Tryz.call25 rfl (s5 _ _ _) (A1 (A0 rfl) (A1 D8 (A1 (A0 rfl) A7)))) ?_
  refine R4 ?_
  refine U1 rfl (fun hc => i6 rfl B4 B6 (B1 rfl hc) (B1 rfl hc) qz5 qz5) ?_
  refine R1 ?_
  refine U1 rfl (fun hc => B2 rfl Tryz.call37 rfl (AX2 (o.take i) x) (A1 (B1 rfl hc) (A1 (B1 rfl hc) A7))) ?_
  refine R2 ?_
  refine A6 (A0 rfl) ?_ ?_
  ·intro h26
   have hn : (within x 0 ((h.length : Int) - 1) && !((o.take i).any fun y => x == y)) = false := qz148
   have he : n2 h o = false := (by unfold n2; rw [hinv.2, hst, hn, Bool.false_and, Bool.false_and])
   rw [he]
   refine R5 ?_
   exact D4 rfl (A8 rfl qz185)
  intro h26
  have hy : (within x 0 ((h.length : Int) - 1) && !((o.take i).any fun y => x == y)) = true := qz148
  refine R5 ?_
  refine E9 i (i + 1) ?_ ?_ (H7 B0 ⟨rfl, rfl, rfl, rfl, rfl, trivial⟩)
  ·exact ⟨by omega, by rw [hinv.2, hst, hy, Bool.true_and]⟩
  omega
 intro h10
 have k10 := of_decide_eq_false h10; try simp only [A5] at k10
 have hge : o.length ≤ i := by (simpa using h10)
 have hfin := hinv.2
 rw [idx_end hge] at hfin
 refine R4 ?_
 refine A4 rfl (B2 rfl Tryz.call44 rfl (AA2 _ n3) (A1 (A0 rfl) A7)) ?_
 refine R3 ?_
 exact D4 rfl (A8 rfl qz185)
end Go.Proofs.YtcfkbhnpfjjmjaaGreat
namespace Go.M
open Go.AV
theorem P6 {h : List C2} {n : Int} (hn : 0 ≤ n ∧ n < (h.length : Int)) : h[n.toNat]? = some (deedAt h n) := (AU0 hn).2
theorem CB3 {l : List A9} (ha : adj wLess l = true) (k : Str) : gotOf l k = tell l k := by
  unfold gotOf tell
  cases hl : lookW l k with
  | some w =>
    obtain ⟨hw, hk⟩ := z7 hl
    obtain ⟨i, hi⟩ := List.getElem?_of_mem hw
    have h1 : wHas l k = true := by rw [BV6 ha]; exact m8.2 ⟨w, hw, hk⟩
    rw [if_pos h1]
    obtain ⟨y, hy, hyk⟩ := AO5.1 h1
    rw [hy]
    have := Ap7 ha (C4 hy)
    rw [hyk, hl] at this
    injection this with this
    subst this; rfl
  | none =>
    rw [if_neg]
    intro h1
    obtain ⟨y, hy, hyk⟩ := AO5.1 h1
    exact Aj6 hl y (C4 hy) hyk
theorem got_ne (a b : G5) : (!(a.Key == b.Key && (a.Val == b.Val && (a.There == b.There && true)))) = !decide (a = b) := by
  congr 1
  cases a; cases b
  rw [Bool.eq_iff_iff]
  simp only [Bool.and_eq_true, beq_iff_eq, decide_eq_true_eq, G5.mk.injEq, and_true]
end Go.M
namespace Go.Proofs.YtcfkbhnpfjjmjaaGreat
open Go Go.AV Go.M
attribute [local irreducible] OpW OpA OpS AWP B9 J2 C9 OpE RetOk H0 I6 Le Ev F1 J8
theorem Am2 (h : List C2) (hl : h.length ≤ 1000) : C9 Tryz.prog 35 [AV.list 8 (h.map C2.cs)] [] (fun _ : Value => True) (fun v => [.arr v 3 1 ((d5 h).map fun n => [AV.int n])]) (fun v => AV.is v) := by
 refine C6 Tryz.func35 rfl Tryz.ntmps35 rfl ?_
 refine R2 ?_
 refine A4 rfl (D6 rfl G8) ?_
 refine R3 ?_
 refine N3 rfl rfl rfl rfl B4 B6 ?_
 intro v6
 refine R10 ?_
 refine AWP.le (C1 [0] rfl) ?_
 refine Q4 [(2, _), (7, _), (8, _)] _ (fun (i : Nat) (v : Value) (ns : List Int) => i ≤ h.length ∧ ns = yesTo h i) (fun (i : Nat) (v : Value) (ns : List Int) => [.arr v 3 1 (ns.map fun n => [AV.int n])]) (fun (i : Nat) (v : Value) (ns : List Int) => [(3, AV.is v), (9, AV.int i)]) (fun (i : Nat) (v : Value) (ns : List Int) => h.length - i) (0) (v6) ([]) ?_ (H7 B0 ⟨rfl, rfl, rfl, rfl, rfl, trivial⟩) ?_
 ·exact ⟨Nat.zero_le _, rfl⟩
 intro i v ns hinv
 refine R5 ?_
 refine A6 (A0 rfl) ?_ ?_
 ·intro h10
  have k10 := of_decide_eq_true h10; try simp only [A5] at k10
  have hlt : i < h.length := AC5
  obtain ⟨x, hx⟩ := get_some hlt
  have hnl : ns.length ≤ 1000 := (by rw [hinv.2]; have := BW5 h i; omega)
  refine R6 ?_
  refine A4 rfl (C7 rfl F8 J4 (A0 rfl) (A0 rfl) hx qz3) ?_
  refine R2 ?_
  intro b5
  refine R8 ?_
  refine A6 (A0 rfl) ?_ ?_
  ·intro h15
   refine R4 ?_
   refine F6 (by' := 8) 1 rfl rfl rfl rfl B4 Tryz.type3 rfl rfl rfl rfl rfl rfl (A0 rfl) (A0 rfl) rfl BD8 ?_
   intro v19_1
   refine R6 ?_
   refine L7 i v ns (i + 1) (v19_1) (ns ++ [(i : Int)]) ?_ ?_ (Le.trans (C1 [0, 0] rfl) (E0 1 AL6 ⟨rfl, rfl, rfl, rfl, rfl, trivial⟩))
   ·first | exact ⟨by omega, by rw [Aa1 hx h15, hinv.2]⟩ | exact ⟨by omega, by rw [Ak3 hx h15, hinv.2]⟩
   omega
  intro h15
  refine R5 ?_
  refine L7 i v ns (i + 1) (v) (ns) ?_ ?_ (Le.trans (C1 [0, 0] rfl) (E0 1 AL6 ⟨rfl, rfl, rfl, rfl, rfl, trivial⟩))
  ·first | exact ⟨by omega, by rw [Aa1 hx h15, hinv.2]⟩ | exact ⟨by omega, by rw [Ak3 hx h15, hinv.2]⟩
  omega
 intro h10
 have k10 := of_decide_eq_false h10; try simp only [A5] at k10
 have hge : i = h.length := (by have h9 : h.length ≤ i := AC5; omega)
 have hns := hinv.2
 rw [hge, BW4] at hns
 rw [← hns]
 refine R7 ?_
 exact I0 [0] v (trivial) rfl B0 (E4 rfl (A8 rfl B0))
theorem BP5 (h : List C2) (hl : h.length ≤ 1000) : B9 Tryz.prog 35 [AV.list 8 (h.map C2.cs)] (ints (d5 h)) :=
  K2 (Am2 h hl) fun x _ => J5 (List.mem_singleton.2 rfl) F4
theorem BP6 (g : G5) (rows : List A9) (ha : adj wLess rows = true) (hs : rows.length ≤ 1048576) : B9 Tryz.prog 87 [AV.agg g.cs, AV.eptr [AV.list 3 (rows.map A9.cs)]] (AV.bool (!decide (tell rows g.Key = g))) := by
  refine B7 Tryz.func87 rfl Tryz.ntmps87 rfl ?_
  refine R3 ?_
  intro b2
  refine R7 ?_
  refine C3 rfl rfl (B2 rfl Tryz.call88 rfl (CA0 _ _ qz8) (A1 (A0 rfl) (A1 (A0 rfl) A7))) ?_
  refine R1 ?_
  refine C3 rfl rfl (Be4 rfl Tryz.underlying45 F2 F2 (A0 rfl) (A0 rfl) (y9 F2 n6 rfl rfl (Au8 M5) (y9 F2 n6 rfl rfl (Au8 M5) (y9 F2 g9 rfl rfl (BB0 V0) BO0)))) ?_
  refine R3 ?_
  exact D4 rfl (A8 rfl (by exact congrArg AV.bool (by rw [← CB3 ha, ← got_ne])))
theorem Ba0 (d : C2) (rows : List A9) (ha : adj wLess rows = true) (hs : rows.length ≤ 1048576) : B9 Tryz.prog 61 [AV.agg d.cs, AV.list 3 (rows.map A9.cs)] (AV.bool (confirms rows d)) := by
  refine B7 Tryz.func61 rfl Tryz.ntmps61 rfl ?_
  refine R3 ?_
  intro b2
  refine BN8 rfl rfl rfl rfl (A0 rfl) (Ag6 _ _) ?_
  intro b3
  refine R6 ?_
  refine A4 rfl (BE6 rfl rfl (A1 (A0 rfl) A7)) ?_
  refine A4 rfl (AK1 rfl Tryz.call86 rfl (AM9 d.Got (fun _ => True) (fun g => !decide (tell rows g.Key = g)) (fun _ _ => trivial)) (X3 _) (T0 (evb (A0 rfl)) (T0 (AT5 (BA8 0 (A0 rfl) rfl) (Ag8 Tryz.call87 (fun g (_ : True) => BP6 g _ n3 Y0))) f8))) ?_
  refine R4 ?_
  exact D4 rfl (A8 rfl (by exact congrArg AV.bool (by unfold confirms; rw [List.not_any_eq_all_not]; congr 1; funext g; rw [Bool.not_not])))
theorem CB4 (h : List C2) (o : List Int) (ho : ∀ n ∈ o, 0 ≤ n ∧ n < (h.length : Int)) : B9 Tryz.prog 38 [AV.list 8 (h.map C2.cs), ints o] (AV.bool (keepsO h o)) := by
 refine B7 Tryz.func38 rfl Tryz.ntmps38 rfl ?_
 refine S1 (t := 1) rfl fun hol => ?_
 try simp only [A5] at hol
 refine R12 ?_
 refine E2 [(0, _), (1, _), (9, _), (10, _)] _ (fun (i : Nat) => i ≤ o.length ∧ keepsO h o = keepsO h (o.drop i)) (fun (i : Nat) => []) (fun (i : Nat) => [(11, AV.int i)]) (fun (i : Nat) => o.length - i) (0) ?_ (H7 B0 ⟨rfl, rfl, rfl, rfl, rfl, trivial⟩) ?_
 ·exact ⟨Nat.zero_le _, rfl⟩
 intro i hinv
 refine R5 ?_
 refine A6 (A0 rfl) ?_ ?_
 ·intro h12
  have k12 := of_decide_eq_true h12; try simp only [A5] at k12
  have hlt : i < o.length := (by simpa using h12)
  obtain ⟨x, hx⟩ := get_some hlt
  have hi0 := hinv.2
  have hxr := ho x (C4 hx)
  have hdl : (o.drop (i + 1)).length ≤ o.length := (by rw [List.length_drop]; omega)
  refine R6 ?_
  refine A4 rfl (C7 rfl B4 B6 (A0 rfl) (A0 rfl) hx qz3) ?_
  refine R9 ?_
  refine A4 rfl (AK2 rfl B4 B6 (A0 rfl) (A0 rfl) qz3 qz3) ?_
  refine R4 ?_
  refine E2 [(0, _), (1, _), (5, _), (6, _), (9, _), (10, _), (11, _), (12, _), (13, _), (14, _), (15, _), (16, _), (17, _), (18, _), (19, _), (20, _)] _ (fun (j : Nat) => j ≤ (o.drop (i + 1)).length ∧ ((o.drop (i + 1)).all fun m => !Go.M.ahead (deedAt h m) (deedAt h x)) = (((o.drop (i + 1)).drop j).all fun m => !Go.M.ahead (deedAt h m) (deedAt h x))) (fun (j : Nat) => []) (fun (j : Nat) => [(21, AV.int j)]) (fun (j : Nat) => (o.drop (i + 1)).length - j) (0) ?_ (H7 B0 ⟨rfl, rfl, rfl, rfl, rfl, rfl, rfl, rfl, rfl, rfl, rfl, rfl, rfl, rfl, rfl, rfl, rfl, trivial⟩) ?_
  ·exact ⟨Nat.zero_le _, rfl⟩
  intro j hinv
  refine R5 ?_
  refine A6 (A0 rfl) ?_ ?_
  ·intro h22
   have k22 := of_decide_eq_true h22; try simp only [A5] at k22
   have hlt1 : j < (o.drop (i + 1)).length := (Int.ofNat_lt.1 k22)
   obtain ⟨z, hz⟩ := get_some hlt1
   have hzr := ho z (List.mem_of_mem_drop (C4 hz))
   refine R5 ?_
   refine A4 rfl (C7 rfl B4 B6 (A0 rfl) (A0 rfl) hz qz3) ?_
   refine R7 ?_
   refine C3 rfl rfl (C7 rfl F8 J4 (A0 rfl) (A0 rfl) (P6 hzr) qz8) ?_
   refine R3 ?_
   refine C3 rfl rfl (C7 rfl F8 J4 (A0 rfl) (A0 rfl) (P6 hxr) qz8) ?_
   refine R1 ?_
   refine C3 rfl rfl (B2 rfl Tryz.call27 rfl (CB2 _ _) (A1 (A0 rfl) (A1 (A0 rfl) A7))) ?_
   refine R1 ?_
   refine A6 (A0 rfl) ?_ ?_
   ·intro h33
    have he : keepsO h o = false := (by rw [hi0, Ay6 hx, hinv.2, Ar1 hz, h33]; rfl)
    rw [he]
    refine R5 ?_
    exact D4 rfl (A8 rfl (by first | rfl | exact congrArg AV.bool hfin.symm))
   intro h33
   refine R5 ?_
   refine E9 j (j + 1) ?_ ?_ (H7 B0 ⟨rfl, rfl, rfl, rfl, rfl, rfl, rfl, rfl, rfl, rfl, rfl, rfl, rfl, rfl, rfl, rfl, rfl, trivial⟩)
   ·exact ⟨by omega, by rw [hinv.2, Ar1 hz, h33]; rfl⟩
   omega
  intro h22
  have k22 := of_decide_eq_false h22; try simp only [A5] at k22
  have hge1 : (o.drop (i + 1)).length ≤ j := (Nat.le_of_not_lt fun h9 => k22 (Int.ofNat_lt.2 h9))
  have hj3 : ((o.drop (i + 1)).all fun m => !Go.M.ahead (deedAt h m) (deedAt h x)) = true := (by rw [hinv.2, List.drop_eq_nil_of_le hge1]; rfl)
  refine R5 ?_
  refine E9 i (i + 1) ?_ ?_ (H7 B0 ⟨rfl, rfl, rfl, rfl, rfl, trivial⟩)
  ·exact ⟨by omega, by rw [hi0, Ay6 hx, hj3, Bool.true_and]⟩
  omega
 intro h12
 have k12 := of_decide_eq_false h12; try simp only [A5] at k12
 have hge : o.length ≤ i := (by simpa using h12)
 have hfin := hinv.2
 rw [CB1 hge] at hfin
 refine R6 ?_
 exact D4 rfl (A8 rfl (by first | rfl | exact congrArg AV.bool hfin.symm))
end Go.Proofs.YtcfkbhnpfjjmjaaGreat
namespace Go.M
open Go.AV
theorem CJ2 {rows ws : List A9} (h : adj wLess rows = true) : putRows rows ws = if ((putD rows ws).length : Int) ≤ 24 then (putD rows ws, true) else ([], false) := by
  unfold putRows putD
  rw [Bg0 h]
  by_cases hc : ((o5 (insL rows ws)).length : Int) ≤ 24
  · rw [if_pos hc, if_neg qz8]
  · rw [if_neg hc, if_pos qz8]
theorem AN2 {h : List C2} {o : List Int} {i : Nat} {n : Int} {rows : List A9} {r : Bool} (hx : o[i]? = some n) : playO h (o.drop i) rows r = if (deedAt h n).Yes = true then (if ((putD rows (deedAt h n).Writes).length : Int) ≤ 24 then playO h (o.drop (i + 1)) (putD rows (deedAt h n).Writes) (r && confirms rows (deedAt h n)) else none) else playO h (o.drop (i + 1)) rows r := by rw [Aa0 hx]; rfl
theorem CB5 {h : List C2} {o : List Int} {rows : List A9} {r : Bool} (ho : n2 h o = true) (e : playO h o [] true = some (rows, r)) : playR h o = (rows, r, true) := by unfold playR; rw [if_pos ho, e]
theorem CB6 {h : List C2} {o : List Int} (ho : n2 h o = true) (e : playO h o [] true = none) : playR h o = ([], false, false) := by unfold playR; rw [if_pos ho, e]
end Go.M
namespace Go.Proofs.YtcfkbhnpfjjmjaaGreat
open Go Go.AV Go.M
attribute [local irreducible] OpW OpA OpS AWP B9 J2 C9 OpE RetOk H0 I6 Le Ev F1 J8
theorem Ba1 (l ws : List A9) (hl : l.length ≤ 2097151) (hw : ws.length ≤ 2097152) : B9 Tryz.prog 62 [AV.list 3 (l.map A9.cs), AV.list 3 (ws.map A9.cs)] (AV.tup [AV.list 3 ((putRows l ws).1.map A9.cs), AV.bool (putRows l ws).2]) :=
  K2 (Bo8 l ws hl hw) fun x _ => u9 (D0 (J5 (List.mem_singleton.2 rfl) F4) (D0 H2 U9))
theorem BP7 (h : List C2) (o : List Int) (hs : ∀ d ∈ h, d.size ≤ 1048576) (hl : h.length ≤ 4611686018427387904) : B9 Tryz.prog 39 [AV.list 8 (h.map C2.cs), ints o] (AV.tup [AV.list 3 ((playR h o).1.map A9.cs), AV.bool (playR h o).2.1, AV.bool (playR h o).2.2]) := by
 refine B7 Tryz.func39 rfl Tryz.ntmps39 rfl ?_
 refine S1 (t := 1) rfl fun hol => ?_
 try simp only [A5] at hol
 refine R2 ?_
 refine A4 rfl (D6 rfl (O6 (sz := 3))) ?_
 refine R8 ?_
 refine A4 rfl (B2 rfl Tryz.call24 rfl (Ae6 _ _ n3 Y0) (A1 (A0 rfl) (A1 (A0 rfl) A7))) ?_
 refine R2 ?_
 refine A6 (A0 rfl) ?_ ?_
 ·intro h16
  have he : playR h o = ([], false, false) := (by unfold playR; rw [if_neg At4])
  rw [he]
  refine R2 ?_
  refine A4 rfl (D6 rfl (O6 (sz := 3))) ?_
  refine R4 ?_
  exact U2 rfl D3 (B8 (A8 rfl B0) (B8 (A8 rfl B0) (B8 (A8 rfl B0) G6)))
 intro h16
 have hor : n2 h o = true := At4
 obtain ⟨o1, o2, o3⟩ := Ax9.1 hor
 refine R18 ?_
 refine Q4 [(0, _), (18, _), (19, _)] _ (fun (i : Nat) (rows : List A9) (r : Bool) => i ≤ o.length ∧ playO h o [] true = playO h (o.drop i) rows r ∧ adj wLess rows = true ∧ rows.length ≤ 24) (fun (i : Nat) (rows : List A9) (r : Bool) => []) (fun (i : Nat) (rows : List A9) (r : Bool) => [(7, AV.list 3 (rows.map A9.cs)), (8, AV.bool r), (20, AV.int i)]) (fun (i : Nat) (rows : List A9) (r : Bool) => o.length - i) (0) ([]) (true) ?_ (H7 B0 ⟨rfl, rfl, rfl, rfl, rfl, rfl, trivial⟩) ?_
 ·exact ⟨Nat.zero_le _, rfl, rfl, Nat.zero_le _⟩
 intro i rows r hinv
 refine R5 ?_
 refine A6 (A0 rfl) ?_ ?_
 ·intro h21
  have k21 := of_decide_eq_true h21; try simp only [A5] at k21
  have hlt : i < o.length := (by simpa using h21)
  obtain ⟨x, hx⟩ := get_some hlt
  have hxr := o1 x (C4 hx)
  have hdm := AU0 hxr
  have hds := Ar2 (hs _ hdm.1)
  have hadj := hinv.2.2.1
  have hpr := CJ2 (ws := (deedAt h x).Writes) hinv.2.2.1
  refine R5 ?_
  refine A4 rfl (C7 rfl B4 B6 (A0 rfl) (A0 rfl) hx qz3) ?_
  refine R8 ?_
  refine A4 rfl (C7 rfl F8 J4 (A0 rfl) (A0 rfl) (P6 hxr) qz8) ?_
  refine R4 ?_
  refine A6 (A0 rfl) ?_ ?_
  ·intro h29
   have hno : (deedAt h x).Yes = false := (by simpa using h29)
   refine R5 ?_
   refine L7 i rows r (i + 1) (rows) (r) ?_ ?_ (H7 B0 ⟨rfl, rfl, rfl, rfl, rfl, rfl, trivial⟩)
   ·first | exact ⟨by omega, by rw [hinv.2.1, AN2 hx, if_neg (by rw [hno]; decide)], hinv.2.2.1, hinv.2.2.2⟩ | exact ⟨by omega, by rw [hinv.2.1, AN2 hx, if_pos hyes, if_pos hfit], Aj7 hinv.2.2.1, by omega⟩
   omega
  intro h29
  have hyes : (deedAt h x).Yes = true := (by simpa using h29)
  refine R7 ?_
  refine L4 rfl (fun hc => C7 rfl F8 J4 (B1 rfl hc) (B1 rfl hc) (P6 hxr) qz8) ?_
  refine R2 ?_
  refine L4 rfl (fun hc => B2 rfl Tryz.call61 rfl (Ba0 (deedAt h x) rows hadj qz8) (A1 (B1 rfl hc) (A1 (B1 rfl hc) A7))) ?_
  refine R8 ?_
  refine A4 rfl (C7 rfl F8 J4 (A0 rfl) (A0 rfl) (P6 hxr) qz8) ?_
  refine R2 ?_
  refine A4 rfl (B2 rfl Tryz.call62 rfl (Ba1 rows (deedAt h x).Writes qz8 qz8) (A1 (A0 rfl) (A1 (A0 rfl) A7))) ?_
  refine R12 ?_
  refine A6 (A0 rfl) ?_ ?_
  ·intro h50
   have hnf : ¬ ((putD rows (deedAt h x).Writes).length : Int) ≤ 24 := (fun hc => by rw [hpr, if_pos hc] at h50; cases h50)
   have he : playR h o = ([], false, false) := CB6 hor (by rw [hinv.2.1, AN2 hx, if_pos hyes, if_neg hnf])
   rw [he]
   refine R2 ?_
   refine A4 rfl (D6 rfl (O6 (sz := 3))) ?_
   refine R4 ?_
   exact U2 rfl D3 (B8 (A8 rfl B0) (B8 (A8 rfl B0) (B8 (A8 rfl B0) G6)))
  intro h50
  have hfit : ((putD rows (deedAt h x).Writes).length : Int) ≤ 24 := Classical.byContradiction (fun hc => by rw [hpr, if_neg hc] at h50; cases h50)
  rw [if_pos hfit] at hpr
  simp only [hpr]
  refine R9 ?_
  refine L7 i rows r (i + 1) (putD rows (deedAt h x).Writes) ((r && confirms rows (deedAt h x))) ?_ ?_ (H7 B0 ⟨rfl, rfl, rfl, rfl, rfl, rfl, trivial⟩)
  ·first | exact ⟨by omega, by rw [hinv.2.1, AN2 hx, if_neg (by rw [hno]; decide)], hinv.2.2.1, hinv.2.2.2⟩ | exact ⟨by omega, by rw [hinv.2.1, AN2 hx, if_pos hyes, if_pos hfit], Aj7 hinv.2.2.1, by omega⟩
  omega
 intro h21
 have k21 := of_decide_eq_false h21; try simp only [A5] at k21
 have hge : o.length ≤ i := (by simpa using h21)
 have hfin : playR h o = (rows, r, true) := CB5 hor qz176
 rw [hfin]
 refine R10 ?_
 exact U2 rfl D3 (B8 (A8 rfl B0) (B8 (A8 rfl B0) (B8 (A8 rfl B0) G6)))
theorem BI1 (n : Int) (o : List Int) : B9 Tryz.prog 36 [AV.int n, AV.eptr [ints o]] (AV.bool (!(o.any fun x => n == x))) := by
  refine B7 Tryz.func36 rfl Tryz.ntmps36 rfl ?_
  refine R8 ?_
  refine A4 rfl (B2 rfl Tryz.call37 rfl (AX2 _ _) (A1 (A0 rfl) (A1 (A0 rfl) A7))) ?_
  refine R4 ?_
  exact D4 rfl (A8 rfl V1)
theorem BP8 (h : List C2) (o : List Int) (hs : ∀ d ∈ h, d.size ≤ 1048576) (hl : h.length ≤ 1000) : B9 Tryz.prog 10 [AV.list 8 (h.map C2.cs), ints o] (AV.tup [AV.bool (Al3 h o).1, AV.bool (Al3 h o).2]) := by
 refine B7 Tryz.func10 rfl Tryz.ntmps10 rfl ?_
 refine R2 ?_
 refine BN8 rfl rfl rfl rfl (A0 rfl) (Ag6 _ _) ?_
 intro b3
 refine R8 ?_
 refine A4 rfl (B2 rfl Tryz.call24 rfl (Ae6 _ _ n3 Y0) (A1 (A0 rfl) (A1 (A0 rfl) A7))) ?_
 refine R2 ?_
 refine A6 (A0 rfl) ?_ ?_
 ·intro h12
  have he : Al3 h o = (false, false) := (by unfold Al3; rw [if_neg (by simpa using h12)])
  rw [he]
  refine R6 ?_
  exact U2 rfl D3 (B8 (A8 rfl B0) (B8 (A8 rfl B0) G6))
 intro h12
 have hor : n2 h o = true := (by simpa using h12)
 obtain ⟨o1, o2, o3⟩ := Ax9.1 hor
 have hany : ((d5 h).any fun n => !(o.any fun x => n == x)) = !Ab2 h o := (by unfold Ab2; rw [List.not_all_eq_any_not])
 have he : Al3 h o = ((Ab2 h o && keepsO h o) && ((playR h o).2.2 && (playR h o).2.1), true) := (by unfold Al3; rw [if_pos hor])
 refine R5 ?_
 refine A4 rfl (B2 rfl Tryz.call35 rfl (BP5 h hl) (A1 (A0 rfl) A7)) ?_
 refine A4 rfl (BE6 rfl rfl (A1 (A0 rfl) A7)) ?_
 refine A4 rfl (AK1 rfl Tryz.call34 rfl (Aj9 (d5 h) (fun _ => True) (fun n => !(o.any fun x => n == x)) (fun _ _ => trivial)) (X3 _) (T0 (evb (A0 rfl)) (T0 (AT5 (BA8 0 (A0 rfl) rfl) (Ag8 Tryz.call36 (fun n (_ : True) => BI1 n _))) f8))) ?_
 refine R3 ?_
 refine U1 rfl (fun hc => B2 rfl Tryz.call38 rfl (CB4 h o o1) (A1 (B1 rfl hc) (A1 (B1 rfl hc) A7))) ?_
 refine R3 ?_
 refine A6 (A0 rfl) ?_ ?_
 ·intro h22
  have hb : (Ab2 h o && keepsO h o) = false := (by rw [hany] at h22; cases h1 : Ab2 h o <;> cases h2 : keepsO h o <;> simp_all)
  rw [he, hb]
  refine R6 ?_
  exact U2 rfl D3 (B8 (A8 rfl B0) (B8 (A8 rfl B0) G6))
 intro h22
 have hb : (Ab2 h o && keepsO h o) = true := (by rw [hany] at h22; cases h1 : Ab2 h o <;> cases h2 : keepsO h o <;> simp_all)
 rw [he, hb]
 refine R5 ?_
 refine A4 rfl (B2 rfl Tryz.call39 rfl (BP7 h o hs qz8) (A1 (A0 rfl) (A1 (A0 rfl) A7))) ?_
 refine R18 ?_
 exact U2 rfl D3 (B8 (A8 rfl B0) (B8 (A8 rfl B0) G6))
end Go.Proofs.YtcfkbhnpfjjmjaaGreat
namespace Go.M
open Go.AV
end Go.M
namespace Go.Proofs.YtcfkbhnpfjjmjaaGreat
open Go Go.AV Go.M
attribute [local irreducible] OpW OpA OpS AWP B9 J2 C9 OpE RetOk H0 I6 Le Ev F1 J8
theorem flatI0 : ∀ {v : List Int}, (v.map fun l => [AV.int l]).flatten = v.map AV.int
  | [] => rfl
  | x :: v => by rw [List.map_cons, List.flatten_cons, flatI0, List.map_cons]; rfl
theorem o0 {v : List Int} {k : Int} {x : Int} (h : v[k.toNat]? = some x) : (v.map fun l => [AV.int l]).flatten[k.toNat * 1]? = some (AV.int x) := by
  rw [flatI0, Nat.mul_one, List.getElem?_map, h]; rfl
end Go.Proofs.YtcfkbhnpfjjmjaaGreat
namespace Go.Proofs.YtcfkbhnpfjjmjaaGreat
open Go Go.AV Go.M
attribute [local irreducible] OpW OpA OpS AWP B9 J2 C9 OpE RetOk H0 I6 Le Ev F1 J8 Int.tmod Int.tdiv IntKind.wrap
theorem Bp8 (v : Value) (h : List C2) (l : List Int) (f : Int → Int → Int) (hf : ∀ x y, x ∈ l → y ∈ l → decide (f x y < 0) = lessT h x y) (hl : l.length ≤ 1048576) :
  C9 Tryz.prog 134 [AV.is v, AV.int 0, AV.int l.length, AV.fun2 Tryz.prog (fun x y : Int => x ∈ l ∧ y ∈ l) (fun x : Int => AV.int x) (fun y : Int => AV.int y) (fun x y => AV.int (f x y))] [.arr v 3 1 (l.map fun n => [AV.int n])]
   (fun _ : Unit => True) (fun _ => [.arr v 3 1 ((foldT h l l.length).map fun n => [AV.int n])]) (fun _ => AV.tup []) := by
 refine C6 Tryz.func134 rfl Tryz.ntmps134 rfl ?_
 refine R7 ?_
 refine E2 [(0, _), (1, _), (2, _), (3, _)] _ (fun (i : Nat) => 1 ≤ i ∧ (i ≤ l.length ∨ i = 1)) (fun (i : Nat) => [.arr v 3 1 ((foldT h l i ++ l.drop i).map fun n => [AV.int n])]) (fun (i : Nat) => [(8, AV.int i)]) (fun (i : Nat) => l.length - i) (1) ?_ (H7 (by (rw [CI0, List.take_append_drop]; rfl)) ⟨rfl, rfl, rfl, rfl, rfl, trivial⟩) ?_
 ·exact ⟨Nat.le_refl _, .inr rfl⟩
 intro i hinv
 refine R7 ?_
 refine A6 (A0 rfl) ?_ ?_
 ·intro h14
  have k14 := of_decide_eq_true h14; try simp only [A5] at k14
  have hil : i < l.length := qz8
  obtain ⟨x, hx⟩ := get_some hil
  have hsl := BV3 h l i qz8
  have hxm : x ∈ l := C4 hx
  have hst : foldT h l i ++ l.drop i = AA8 (foldT h l i) x i (l.drop (i + 1)) := (by rw [drop_some hx, Bz5, hsl])
  refine R9 ?_
  refine E2 [(0, _), (1, _), (2, _), (3, _), (8, _), (12, _), (13, _), (14, _), (17, _)] _ (fun (j : Nat) => j ≤ i ∧ posR h x (foldT h l i) (foldT h l i).length = posR h x (foldT h l i) j) (fun (j : Nat) => [.arr v 3 1 ((AA8 (foldT h l i) x j (l.drop (i + 1))).map fun n => [AV.int n])]) (fun (j : Nat) => [(9, AV.int j)]) (fun (j : Nat) => j) (i) ?_ (H7 (by (rw [hst])) ⟨rfl, rfl, rfl, rfl, rfl, rfl, rfl, rfl, rfl, rfl, trivial⟩) ?_
  ·exact ⟨Nat.le_refl _, by rw [hsl]⟩
  intro j hinv
  have hinv2 := hinv
  obtain ⟨y, hy⟩ := AB6 (foldT h l i) (j - 1)
  have hlen9 := snk9_len (S := foldT h l i) (rest := l.drop (i + 1)) (x := x) (j := j) qz8
  have hdl : (l.drop (i + 1)).length = l.length - (i + 1) := List.length_drop
  refine R10 ?_
  refine L2 rfl (O5 rfl rfl rfl) (fun hc => E8 0 rfl B4 B6 (B1 rfl hc) rfl (B1 rfl hc) qz5 qz5) ?_
  refine L2 rfl (O5 rfl rfl rfl) (fun hc => U7 0 rfl (B1 rfl hc) rfl I7 (o0 (k := (j : Int)) Az8)) ?_
  refine R3 ?_
  refine L2 rfl (O5 rfl rfl rfl) (fun hc => E8 0 rfl B4 B6 (B1 rfl hc) rfl (B1 rfl hc) qz5 qz5) ?_
  refine L2 rfl (O5 rfl rfl rfl) (fun hc => U7 0 rfl (B1 rfl hc) rfl I7 (o0 (k := (j : Int) - 1) (by have hc2 : 0 < j := (by have h9 := of_decide_eq_true hc; omega); rw [show ((j : Int) - 1).toNat = j - 1 by omega]; exact BV2 hc2 qz8 (hy qz8)))) ?_
  refine L2 rfl (O5 rfl rfl rfl) (fun hc => BA7 rfl (B1 rfl hc) x y ⟨hxm, Aq2 (C4 (hy (by have h9 := of_decide_eq_true hc; omega)))⟩ (B1 rfl hc) (B1 rfl hc)) ?_
  refine R3 ?_
  refine A6 (A0 rfl) ?_ ?_
  ·intro h34
   simp only [Bool.and_eq_true] at h34
   obtain ⟨h34a, hlt0⟩ := h34
   have haj : 0 < j := (by have h9 := of_decide_eq_true h34a; omega)
   have hym := Aq2 (C4 (hy qz8))
   have hlt : lessT h x y = true := (by rw [← hf x y hxm hym]; exact hlt0)
   refine R3 ?_
   refine Q8 [] 17 (.pure 0 (.pure 1 (.pure 2 (.pure 3 (.pure 4 (.pure 5 (.pure 6 (.pure 7 (.pure 10 (.pure 11 (.e2 8 (.e2 9 (.e1 12 (.e1 13 (.e1 14 (.e1 15 (.e1 16 .nil))))) 12 (.e2 9 (.e1 13 (.e1 14 (.e1 15 (.e1 16 .nil)))) 13 (.e1 9 (.e1 14 (.e1 15 (.e1 16 .nil)))))) 12 (.e2 8 (.e2 9 (.e1 13 (.e1 14 (.e1 15 (.e1 16 .nil)))) 13 (.e1 9 (.e1 14 (.e1 15 (.e1 16 .nil))))) 13 (.e1 8 (.e1 9 (.e1 14 (.e1 15 (.e1 16 .nil))))))))))))))))) F2 F2 rfl BB4 ?_
   refine R10 ?_
   refine j5 ?_ ?_
   ·refine F7 rfl rfl rfl (Q6 (E8 0 rfl B4 B6 (A0 rfl) rfl (A0 rfl) qz3 qz3)) (fun a _ => qz4) ?_
    intro _ _
    refine j5 ?_ ?_
    ·refine F7 rfl rfl rfl (Q6 (U7 0 rfl (A0 rfl) rfl I7 (o0 (k := (j : Int) - 1) BM5))) (fun a _ => qz4) ?_
     intro _ _
     refine R1 ?_
     refine F7 rfl rfl rfl (Q6 (E8 0 rfl B4 B6 (A0 rfl) rfl (A0 rfl) qz3 qz3)) (fun a _ => qz4) ?_
     intro _ _
     refine R1 ?_
     refine F7 rfl rfl rfl (Q6 (U7 0 rfl (A0 rfl) rfl I7 (o0 (k := (j : Int)) Az8))) (fun a _ => qz4) ?_
     intro _ _
     refine R1 ?_
     refine F7 rfl rfl rfl (Q6 (E8 0 rfl B4 B6 (A0 rfl) rfl (A0 rfl) qz3 qz3)) (fun a _ => qz4) ?_
     intro _ _
     refine R1 ?_
     refine c8 rfl rfl rfl (AF2 0 rfl rfl (A0 rfl) (A0 rfl) (Q1 _ _) rfl B6 rfl qz3) (fun a _ => qz4) ?_
     intro _ _
     refine R1 ?_
     refine F7 rfl rfl rfl (Q6 (E8 0 rfl B4 B6 (A0 rfl) rfl (A0 rfl) qz8 Au1)) (fun a _ => qz4) ?_
     intro _ _
     refine R1 ?_
     refine S9 0 rfl rfl rfl (A0 rfl) (A0 rfl) (Q1 _ _) rfl B6 rfl Au2 ?_
     refine R6 ?_
     refine E9 j (j - 1) ?_ ?_ (H7 BM9 ⟨congrArg (fun z => some (AV.int z)) qz8, rfl, rfl, rfl, rfl, rfl, rfl, rfl, rfl, rfl, trivial⟩)
     ·exact ⟨by omega, by rw [hinv2.2, AM8 haj (hy qz8), if_pos hlt]⟩
     omega
    refine F7 rfl rfl rfl (Q6 (E8 0 rfl B4 B6 (A0 rfl) rfl (A0 rfl) qz3 qz3)) (fun a _ => qz4) ?_
    intro _ _
    refine j5 ?_ ?_
    ·refine F7 rfl rfl rfl (Q6 (U7 0 rfl (A0 rfl) rfl I7 (o0 (k := (j : Int) - 1) BM5))) (fun a _ => qz4) ?_
     intro _ _
     refine R1 ?_
     refine F7 rfl rfl rfl (Q6 (U7 0 rfl (A0 rfl) rfl I7 (o0 (k := (j : Int)) Az8))) (fun a _ => qz4) ?_
     intro _ _
     refine R1 ?_
     refine F7 rfl rfl rfl (Q6 (E8 0 rfl B4 B6 (A0 rfl) rfl (A0 rfl) qz3 qz3)) (fun a _ => qz4) ?_
     intro _ _
     refine R1 ?_
     refine c8 rfl rfl rfl (AF2 0 rfl rfl (A0 rfl) (A0 rfl) (Q1 _ _) rfl B6 rfl qz3) (fun a _ => qz4) ?_
     intro _ _
     refine R1 ?_
     refine F7 rfl rfl rfl (Q6 (E8 0 rfl B4 B6 (A0 rfl) rfl (A0 rfl) qz8 Au1)) (fun a _ => qz4) ?_
     intro _ _
     refine R1 ?_
     refine S9 0 rfl rfl rfl (A0 rfl) (A0 rfl) (Q1 _ _) rfl B6 rfl Au2 ?_
     refine R6 ?_
     refine E9 j (j - 1) ?_ ?_ (H7 BM9 ⟨congrArg (fun z => some (AV.int z)) qz8, rfl, rfl, rfl, rfl, rfl, rfl, rfl, rfl, rfl, trivial⟩)
     ·exact ⟨by omega, by rw [hinv2.2, AM8 haj (hy qz8), if_pos hlt]⟩
     omega
    refine F7 rfl rfl rfl (Q6 (U7 0 rfl (A0 rfl) rfl I7 (o0 (k := (j : Int)) Az8))) (fun a _ => qz4) ?_
    intro _ _
    refine R1 ?_
    refine F7 rfl rfl rfl (Q6 (U7 0 rfl (A0 rfl) rfl I7 (o0 (k := (j : Int) - 1) BM5))) (fun a _ => qz4) ?_
    intro _ _
    refine R1 ?_
    refine F7 rfl rfl rfl (Q6 (E8 0 rfl B4 B6 (A0 rfl) rfl (A0 rfl) qz3 qz3)) (fun a _ => qz4) ?_
    intro _ _
    refine R1 ?_
    refine c8 rfl rfl rfl (AF2 0 rfl rfl (A0 rfl) (A0 rfl) (Q1 _ _) rfl B6 rfl qz3) (fun a _ => qz4) ?_
    intro _ _
    refine R1 ?_
    refine F7 rfl rfl rfl (Q6 (E8 0 rfl B4 B6 (A0 rfl) rfl (A0 rfl) qz8 Au1)) (fun a _ => qz4) ?_
    intro _ _
    refine R1 ?_
    refine S9 0 rfl rfl rfl (A0 rfl) (A0 rfl) (Q1 _ _) rfl B6 rfl Au2 ?_
    refine R6 ?_
    refine E9 j (j - 1) ?_ ?_ (H7 BM9 ⟨congrArg (fun z => some (AV.int z)) qz8, rfl, rfl, rfl, rfl, rfl, rfl, rfl, rfl, rfl, trivial⟩)
    ·exact ⟨by omega, by rw [hinv2.2, AM8 haj (hy qz8), if_pos hlt]⟩
    omega
   refine F7 rfl rfl rfl (Q6 (E8 0 rfl B4 B6 (A0 rfl) rfl (A0 rfl) qz3 qz3)) (fun a _ => qz4) ?_
   intro _ _
   refine j5 ?_ ?_
   ·refine F7 rfl rfl rfl (Q6 (E8 0 rfl B4 B6 (A0 rfl) rfl (A0 rfl) qz3 qz3)) (fun a _ => qz4) ?_
    intro _ _
    refine j5 ?_ ?_
    ·refine F7 rfl rfl rfl (Q6 (U7 0 rfl (A0 rfl) rfl I7 (o0 (k := (j : Int) - 1) BM5))) (fun a _ => qz4) ?_
     intro _ _
     refine R1 ?_
     refine F7 rfl rfl rfl (Q6 (U7 0 rfl (A0 rfl) rfl I7 (o0 (k := (j : Int)) Az8))) (fun a _ => qz4) ?_
     intro _ _
     refine R1 ?_
     refine F7 rfl rfl rfl (Q6 (E8 0 rfl B4 B6 (A0 rfl) rfl (A0 rfl) qz3 qz3)) (fun a _ => qz4) ?_
     intro _ _
     refine R1 ?_
     refine c8 rfl rfl rfl (AF2 0 rfl rfl (A0 rfl) (A0 rfl) (Q1 _ _) rfl B6 rfl qz3) (fun a _ => qz4) ?_
     intro _ _
     refine R1 ?_
     refine F7 rfl rfl rfl (Q6 (E8 0 rfl B4 B6 (A0 rfl) rfl (A0 rfl) qz8 Au1)) (fun a _ => qz4) ?_
     intro _ _
     refine R1 ?_
     refine S9 0 rfl rfl rfl (A0 rfl) (A0 rfl) (Q1 _ _) rfl B6 rfl Au2 ?_
     refine R6 ?_
     refine E9 j (j - 1) ?_ ?_ (H7 BM9 ⟨congrArg (fun z => some (AV.int z)) qz8, rfl, rfl, rfl, rfl, rfl, rfl, rfl, rfl, rfl, trivial⟩)
     ·exact ⟨by omega, by rw [hinv2.2, AM8 haj (hy qz8), if_pos hlt]⟩
     omega
    refine F7 rfl rfl rfl (Q6 (U7 0 rfl (A0 rfl) rfl I7 (o0 (k := (j : Int)) Az8))) (fun a _ => qz4) ?_
    intro _ _
    refine R1 ?_
    refine F7 rfl rfl rfl (Q6 (U7 0 rfl (A0 rfl) rfl I7 (o0 (k := (j : Int) - 1) BM5))) (fun a _ => qz4) ?_
    intro _ _
    refine R1 ?_
    refine F7 rfl rfl rfl (Q6 (E8 0 rfl B4 B6 (A0 rfl) rfl (A0 rfl) qz3 qz3)) (fun a _ => qz4) ?_
    intro _ _
    refine R1 ?_
    refine c8 rfl rfl rfl (AF2 0 rfl rfl (A0 rfl) (A0 rfl) (Q1 _ _) rfl B6 rfl qz3) (fun a _ => qz4) ?_
    intro _ _
    refine R1 ?_
    refine F7 rfl rfl rfl (Q6 (E8 0 rfl B4 B6 (A0 rfl) rfl (A0 rfl) qz8 Au1)) (fun a _ => qz4) ?_
    intro _ _
    refine R1 ?_
    refine S9 0 rfl rfl rfl (A0 rfl) (A0 rfl) (Q1 _ _) rfl B6 rfl Au2 ?_
    refine R6 ?_
    refine E9 j (j - 1) ?_ ?_ (H7 BM9 ⟨congrArg (fun z => some (AV.int z)) qz8, rfl, rfl, rfl, rfl, rfl, rfl, rfl, rfl, rfl, trivial⟩)
    ·exact ⟨by omega, by rw [hinv2.2, AM8 haj (hy qz8), if_pos hlt]⟩
    omega
   refine F7 rfl rfl rfl (Q6 (U7 0 rfl (A0 rfl) rfl I7 (o0 (k := (j : Int)) Az8))) (fun a _ => qz4) ?_
   intro _ _
   refine R1 ?_
   refine F7 rfl rfl rfl (Q6 (E8 0 rfl B4 B6 (A0 rfl) rfl (A0 rfl) qz3 qz3)) (fun a _ => qz4) ?_
   intro _ _
   refine R1 ?_
   refine F7 rfl rfl rfl (Q6 (U7 0 rfl (A0 rfl) rfl I7 (o0 (k := (j : Int) - 1) BM5))) (fun a _ => qz4) ?_
   intro _ _
   refine R1 ?_
   refine F7 rfl rfl rfl (Q6 (E8 0 rfl B4 B6 (A0 rfl) rfl (A0 rfl) qz3 qz3)) (fun a _ => qz4) ?_
   intro _ _
   refine R1 ?_
   refine c8 rfl rfl rfl (AF2 0 rfl rfl (A0 rfl) (A0 rfl) (Q1 _ _) rfl B6 rfl qz3) (fun a _ => qz4) ?_
   intro _ _
   refine R1 ?_
   refine F7 rfl rfl rfl (Q6 (E8 0 rfl B4 B6 (A0 rfl) rfl (A0 rfl) qz8 Au1)) (fun a _ => qz4) ?_
   intro _ _
   refine R1 ?_
   refine S9 0 rfl rfl rfl (A0 rfl) (A0 rfl) (Q1 _ _) rfl B6 rfl Au2 ?_
   refine R6 ?_
   refine E9 j (j - 1) ?_ ?_ (H7 BM9 ⟨congrArg (fun z => some (AV.int z)) qz8, rfl, rfl, rfl, rfl, rfl, rfl, rfl, rfl, rfl, trivial⟩)
   ·exact ⟨by omega, by rw [hinv2.2, AM8 haj (hy qz8), if_pos hlt]⟩
   omega
  intro h34
  have hpj : posR h x (foldT h l i) (foldT h l i).length = j := (by rw [hinv2.2]; by_cases haj : 0 < j; (have hym := Aq2 (C4 (hy qz8)); rw [AM8 haj (hy qz8), ← hf x y hxm hym]; simp only [decide_eq_true (show (0 : Int) < (j : Int) by omega), Bool.true_and] at h34; rw [if_neg (by simp [h34])]); (obtain rfl : j = 0 := qz8; rfl))
  refine R6 ?_
  refine E9 i (i + 1) ?_ ?_ (H7 (by (rw [Bz6 hx, ← CH9 hpj])) ⟨rfl, rfl, rfl, rfl, rfl, trivial⟩)
  ·exact ⟨by omega, by omega⟩
  omega
 intro h14
 have k14 := of_decide_eq_false h14; try simp only [A5] at k14
 have hie : foldT h l i ++ l.drop i = foldT h l l.length := (by unfold foldT; rw [List.drop_of_length_le qz8, List.append_nil, List.take_of_length_le qz8, List.take_of_length_le qz8])
 refine R1 ?_
 exact I0 [0] (()) (trivial) rfl (by (rw [hie]; rfl)) (U3 rfl D3 G6)
theorem Bp9 (v : Value) (h : List C2) (l : List Int) (f : Int → Int → Int) (hf : ∀ x y, x ∈ l → y ∈ l → decide (f x y < 0) = lessT h x y) (hl : l.length < 20) :
  C9 Tryz.prog 109 [AV.is v, AV.int l.length, AV.fun2 Tryz.prog (fun x y : Int => x ∈ l ∧ y ∈ l) (fun x : Int => AV.int x) (fun y : Int => AV.int y) (fun x y => AV.int (f x y))] [.arr v 3 1 (l.map fun n => [AV.int n])]
   (fun _ : Unit => True) (fun _ => [.arr v 3 1 ((foldT h l l.length).map fun n => [AV.int n])]) (fun _ => AV.tup []) := by
 refine C6 Tryz.func109 rfl Tryz.ntmps109 rfl ?_
 refine R12 ?_
 refine E2 [(0, _), (1, _), (2, _), (6, _)] _ (fun (z9 : Unit) => True) (fun (z9 : Unit) => [.arr v 3 1 (l.map fun n => [AV.int n])]) (fun (z9 : Unit) => [(7, AV.int 0), (8, AV.int 20)]) (fun (z9 : Unit) => 0) (()) ?_ (H7 B0 ⟨rfl, rfl, rfl, rfl, rfl, rfl, trivial⟩) ?_
 ·trivial
 intro z9 hinv
 refine R7 ?_
 refine A6 (A0 rfl) ?_ ?_
 ·intro h13
  have k13 := of_decide_eq_true h13; try simp only [A5] at k13
  exfalso; omega
 intro h13
 have k13 := of_decide_eq_false h13; try simp only [A5] at k13
 refine R7 ?_
 refine F0 [0] rfl rfl rfl rfl Tryz.call134 rfl (Bp8 v h l f hf qz8) (A1 (A0 rfl) (A1 (A0 rfl) (A1 (A0 rfl) (A1 (A0 rfl) A7)))) rfl ?_
 intro x27 ok27
 refine R2 ?_
 refine E2 [(0, _), (1, _), (2, _)] _ (fun (z8 : Unit) => True) (fun (z8 : Unit) => [.arr v 3 1 ((foldT h l l.length).map fun n => [AV.int n])]) (fun (z8 : Unit) => [(6, AV.int 20)]) (fun (z8 : Unit) => 0) (()) ?_ (H7 B0 ⟨rfl, rfl, rfl, rfl, trivial⟩) ?_
 ·trivial
 intro z8 hinv
 refine R7 ?_
 refine A6 (A0 rfl) ?_ ?_
 ·intro h30
  have k30 := of_decide_eq_true h30; try simp only [A5] at k30
  exfalso; omega
 intro h30
 have k30 := of_decide_eq_false h30; try simp only [A5] at k30
 refine R1 ?_
 exact I0 [0] (()) (trivial) rfl B0 (U3 rfl D3 G6)
theorem BI2 (v : Value) (h : List C2) (l : List Int) (f : Int → Int → Int) (hf : ∀ x y, x ∈ l → y ∈ l → decide (f x y < 0) = lessT h x y) (hl : l.length < 20) :
    C9 Tryz.prog 74 [AV.is v, AV.fun2 Tryz.prog (fun x y : Int => x ∈ l ∧ y ∈ l) (fun x : Int => AV.int x) (fun y : Int => AV.int y) (fun x y => AV.int (f x y))] [.arr v 3 1 (l.map fun n => [AV.int n])]
      (fun _ : Unit => True) (fun _ => [.arr v 3 1 ((foldT h l l.length).map fun n => [AV.int n])]) (fun _ => AV.tup []) := by
  refine C6 Tryz.func74 rfl Tryz.ntmps74 rfl ?_
  refine R5 ?_
  refine F0 [0] rfl rfl rfl rfl Tryz.call109 rfl (Bp9 v h l f hf hl) (A1 (A0 rfl) (A1 (A0 (congrArg (fun z => some (AV.int z)) (by rw [A5]))) (A1 (A0 rfl) A7))) rfl ?_
  intro x8 ok8
  refine R1 ?_
  exact I0 [0] (()) (trivial) rfl B0 (U3 rfl D3 G6)
end Go.Proofs.YtcfkbhnpfjjmjaaGreat
namespace Go.M
open Go.AV
def leS (c k : Str) : Bool := Op.bytesLess c k || c == k
def partW (l : List Str) (k : Str) : Nat := (l.takeWhile fun c => leS c k).length
def l15Cuts (l : List Str) : Bool := (l.all l3Key && adj Op.bytesLess l) && decide ((l.length : Int) < 4)
theorem Ak4 (l : List Str) (k : Str) : partW l k ≤ l.length := (List.takeWhile_sublist _).length_le
theorem BD0 {k : Str} : ∀ {l : List Str} {i : Nat} {c : Str}, l[i]? = some c → (i < partW l k → leS c k = true) ∧ (i = partW l k → leS c k = false)
  | [], i, c, h => by simp at h
  | d :: l, i, c, h => by
    unfold partW
    cases hd : leS d k with
    | true =>
      rw [List.takeWhile_cons_of_pos (p := fun c => leS c k) hd, H4]
      cases i with
      | zero => simp at h; subst h; exact ⟨fun _ => hd, fun e => by omega⟩
      | succ i =>
        have ih := BD0 (k := k) (l := l) (i := i) (c := c) s9
        unfold partW at ih
        exact ⟨fun hl => ih.1 qz8, fun e => ih.2 qz8⟩
    | false =>
      rw [List.takeWhile_cons_of_neg (p := fun c => leS c k) (by rw [hd]; decide)]
      refine ⟨fun hl => by simp at hl, fun e => ?_⟩
      simp at e; subst e
      simp at h; subst h; exact hd
def lookKeys (l : List Str) : Bool := within (l.length : Int) 1 8 && areRising l
def goodTxnW (w : TWorld) (t : A3) : Bool := ((((((goodOps t.Ops && decide (0 < (t.Ops.length : Int))) && AB3 t.Got) && ((t.Terms.length : Int) == (w.Groups.length : Int))) && (t.Terms.all fun n => within n 0 200)) && within t.Begin (-1) w.Count) && within t.End (-1) w.Count) && isTrue t.Time
def CL7 (l : List G5) (ks : List Str) : Bool := (List.range l.length).all fun i => match l[i]?, ks[i]? with
  | some g, some k => g.Key == k
  | _, _ => false
def CL8 (w : TWorld) (l : A2) : Bool := (((((((within l.Node 0 ((w.Clocks.length : Int) - 1) && lookKeys l.Keys) && decide ((l.Got.length : Int) ≤ (l.Keys.length : Int))) && AB3 l.Got) && CL7 l.Got l.Keys) && isTrue l.Time) && within l.Begin (-1) w.Count) && within l.End (-1) w.Count)
structure WD9 (w : TWorld) : Prop where
  size : w.size ≤ 1000000
  keys : ∀ g ∈ w.Groups, p3 BL4 g
  ops : ∀ t ∈ w.Txns, ∀ o ∈ t.Ops, o.Key ∈ keyD
  ends : ∀ t ∈ w.Txns, t.End = -1 ∨ t.Begin < t.End
  lends : ∀ l ∈ w.Looks, l.End = -1 ∨ l.Begin < l.End
structure GW (w : TWorld) : Prop where
  cuts : w.Cuts.length ≤ 2 ∧ l15Cuts w.Cuts = true
  groups : w.Groups.length = w.Cuts.length + 1 ∧ ∀ g ∈ w.Groups, GG g ∧ g.Reps.length = 3
  locks : w.Locks.length = w.Cuts.length + 1
  promised : w.Promised.length = w.Cuts.length + 1
  clocks : w.Clocks.length = 3 * (w.Cuts.length + 1) ∧ ∀ c ∈ w.Clocks, -5 ≤ c.Off ∧ c.Off ≤ 5
  now : 0 ≤ w.Now ∧ w.Now ≤ 100000
  count : 0 ≤ w.Count ∧ w.Count ≤ 1000000
  txns : w.Txns.length ≤ 6 ∧ ∀ t ∈ w.Txns, goodTxnW w t = true
  looks : w.Looks.length ≤ 4 ∧ ∀ l ∈ w.Looks, CL8 w l = true
end Go.M
namespace Go.Proofs.YtcfkbhnpfjjmjaaGreat
open Go Go.AV Go.M
attribute [local irreducible] OpW OpA OpS AWP B9 J2 C9 OpE RetOk H0 I6 Le Ev F1
end Go.Proofs.YtcfkbhnpfjjmjaaGreat
namespace Go.Proofs.YtcfkbhnpfjjmjaaGreat
open Go Go.AV Go.M
attribute [local irreducible] OpW OpA OpS AWP B9 J2 C9 OpE RetOk H0 I6 Le Ev F1 J8
theorem Bi8 (a b : Int) : B9 Tryz.prog 208 [AV.int a, AV.int b] (AV.int (AX9 a b)) := by
 refine B7 Tryz.func208 rfl Tryz.ntmps208 rfl ?_
 refine R11 ?_
 refine A6 (A0 rfl) ?_ ?_
 ·intro h7
  have k7 := of_decide_eq_true h7; try simp only [A5] at k7
  have he : AX9 a b = a := by unfold AX9; rw [if_pos k7]
  rw [he]
  refine R6 ?_
  exact D4 rfl (A8 rfl V1)
 intro h7
 have k7 := of_decide_eq_false h7; try simp only [A5] at k7
 have he : AX9 a b = b := by unfold AX9; rw [if_neg k7]
 rw [he]
 refine R7 ?_
 exact D4 rfl (A8 rfl V1)
end Go.Proofs.YtcfkbhnpfjjmjaaGreat
