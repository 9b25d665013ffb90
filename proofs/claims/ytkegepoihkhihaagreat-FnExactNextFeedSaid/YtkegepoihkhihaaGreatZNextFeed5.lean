/- Texts of the claim, part 5. -/
import Derived.Test.YtkegepoihkhihaaGreatZNextFeed4

set_option linter.unusedVariables false
set_option linter.unusedSimpArgs false
set_option maxRecDepth 100000
set_option maxHeartbeats 1000000
namespace Go.Proofs.YtkegepoihkhihaaGreat
open Go Go.AV Go.M
attribute [local irreducible] OpW OpA OpS AWP FSpec ESpec GSpec OpE RetOk RetOkG RvDen Le Ev GuardIs SrcIs Int.tmod Int.tdiv IntKind.wrap
theorem u7 {l : List Str} {i j : Nat} {s : Str} (h : l[i]? = some s) (hj : j = i * 1) : ((l.map fun s => [AV.str s]).flatten)[j]? = some (AV.str s) := by
  rw [hj, Nat.mul_one]
  have e : (l.map fun s => [AV.str s]).flatten = l.map AV.str := by
    clear h
    induction l with
    | nil => rfl
    | cons x l ih => simp [ih]
  rw [e, List.getElem?_map, h]; rfl
theorem AT5 (v : Value) (l : List Str) (hl : l.length ≤ 4194304) : GSpec Tryz.prog 190 [AV.is v] [.arr v 9 1 (l.map fun s => [AV.str s])]
   (fun _ : Value => True) (fun v => [.arr v 9 1 ((cmpL l).map fun s => [AV.str s])]) (fun v => AV.is v) := by
 refine K4 Tryz.func190 rfl Tryz.ntmps190 rfl ?_
 refine A3 (A2 ?_)
 refine A1 rfl (A7 rfl S0) ?_
 refine A4 (A3 (A3 (A2 ?_)))
 refine A5 rfl ?_
 refine A1 rfl (V3 0 rfl D6 (A0 rfl) rfl) ?_
 refine A1 rfl (F7 rfl (A0 rfl) B4) ?_
 refine A4 ?_
 refine C0 (A0 rfl) ?_ ?_
 ·intro h8
  have k8 := of_decide_eq_true h8; try simp only [A6] at k8
  have hall : cmpL l = l := by (unfold cmpL; rw [x4 (Nat.le_refl _) (fun i h1 h2 => by omega), List.take_length])
  refine A3 (A2 ?_)
  refine A5 rfl ?_
  refine B1 rfl ?_
  refine A4 ?_
  refine B8 ?_
  exact U7 [0] v (trivial) rfl (by first | exact congrArg (fun z => [Own.arr _ 9 1 (List.map (fun s => [AV.str s]) z)]) hall | (refine congrArg (fun z => [Own.arr _ 9 1 z]) ?_; exact (AR9 hinv.2.2.2.2.1 hge (by omega)).symm)) (V6 rfl (B7 rfl (by first | rfl | (refine congrArg AV.bool ?_; simp_all; done))))
 intro h8
 have k8 := of_decide_eq_false h8; try simp only [A6] at k8
 refine C1 (A3 (A3 (A2 ?_)))
 refine A1 rfl (A7 rfl B4) ?_
 refine A4 (C3 ?_)
 refine G4 [(0, _)] _ (fun (k : Nat) => (1 ≤ k ∧ k ≤ l.length) ∧ ∀ i, 1 ≤ i → i < k → l[i]? ≠ l[i - 1]?) (fun (k : Nat) => []) (fun (k : Nat) => [(3, AV.int k)]) (fun (k : Nat) => l.length - k) (1) ?_ (G6 ⟨rfl, rfl, trivial⟩) ?_
 ·exact ⟨⟨Nat.le_refl _, by omega⟩, fun i h1 h2 => by omega⟩
 intro k hinv
 refine A3 (A3 (A2 ?_))
 refine A5 rfl ?_
 refine A5 rfl ?_
 refine A1 rfl (V3 0 rfl D6 (A0 rfl) rfl) ?_
 refine A1 rfl (F7 rfl (A0 rfl) (A0 rfl)) ?_
 refine A4 ?_
 refine C0 (A0 rfl) ?_ ?_
 ·intro h13
  have k13 := of_decide_eq_true h13; try simp only [A6] at k13
  have hlt : k < l.length := by omega
  obtain ⟨x, hx⟩ := get_some hlt
  obtain ⟨y, hy⟩ := get_some (show k - 1 < l.length by omega)
  refine C1 (A3 (C3 (A3 ?_)))
  refine H7 (by kernel_rfl) (by kernel_rfl) rfl ?_
  refine B3 rfl rfl (C4 rfl (A0 rfl)) ?_
  refine B3 rfl rfl (C4 rfl (A0 rfl)) ?_
  refine B3 rfl rfl (K9 0 rfl D6 D2 (A0 rfl) rfl (A0 rfl) (by first | omega | (simp only [D3, B0, szR] at *; omega)) (by first | omega | (simp only [D3, B0, szR] at *; omega))) ?_
  refine B3 rfl rfl (j3 0 rfl (A0 rfl) rfl E6 (u7 hx (by omega))) ?_
  refine B3 rfl rfl (C4 rfl (A0 rfl)) ?_
  refine B3 rfl rfl (C4 rfl (A0 rfl)) ?_
  refine B3 rfl rfl (O8 rfl (A0 rfl) B4 (by first | omega | (simp only [D3, B0, szR] at *; omega))) ?_
  refine B3 rfl rfl (K9 0 rfl D6 D2 (A0 rfl) rfl (A0 rfl) (by first | omega | (simp only [D3, B0, szR] at *; omega)) (by first | omega | (simp only [D3, B0, szR] at *; omega))) ?_
  refine B3 rfl rfl (j3 0 rfl (A0 rfl) rfl E6 (u7 hy (by omega))) ?_
  refine B3 rfl rfl (t1 rfl (A0 rfl) (A0 rfl)) ?_
  refine O4 ?_
  refine C0 (A0 rfl) ?_ ?_
  ·intro h25
   have hxy : l[k]? = l[k - 1]? := by (rw [hx, hy]; have h9 := h25; simp at h9; rw [h9])
   have hinv0 := hinv
   refine A3 (A2 ?_)
   refine A5 rfl ?_
   refine A5 rfl ?_
   refine A1 rfl (Aa6 0 rfl D6 D2 (A0 rfl) rfl (A0 rfl) (by first | omega | (simp only [D3, B0, szR] at *; omega)) (by first | omega | (simp only [D3, B0, szR] at *; omega))) ?_
   refine B1 rfl ?_
   refine A4 (A3 (A3 (A2 ?_)))
   refine A1 rfl (A7 rfl B4) ?_
   refine A4 (C3 ?_)
   refine Y3 [(0, _), (4, _), (10, _), (11, _), (12, _), (13, _), (16, _), (17, _), (18, _), (19, _), (20, _), (21, _), (22, _), (23, _), (24, _), (25, _), (26, _), (27, _), (28, _)] _ (fun (i : Nat) (j : Nat) (m : List Str) => 1 ≤ j ∧ k + j ≤ l.length ∧ i + 1 ≤ k + j ∧ m.length = l.length ∧ m.take i = cmpN l (k + j) ∧ m.drop (k + j - 1) = l.drop (k + j - 1)) (fun (i : Nat) (j : Nat) (m : List Str) => [.arr v 9 1 (m.map fun s => [AV.str s])]) (fun (i : Nat) (j : Nat) (m : List Str) => [(3, AV.int i), (5, AV.int j)]) (fun (i : Nat) (j : Nat) (m : List Str) => l.length - (k + j)) (k) (1) (l) ?_ (J9 (by rfl) ⟨rfl, rfl, rfl, rfl, rfl, rfl, rfl, rfl, rfl, rfl, rfl, rfl, rfl, rfl, rfl, rfl, rfl, rfl, rfl, rfl, rfl, trivial⟩) ?_
   ·exact ⟨Nat.le_refl _, by omega, by omega, rfl, by rw [AV5 (by omega) hxy, x4 (by omega) hinv0.2], rfl⟩
   intro i j m hinv
   refine A3 (A3 (A2 ?_))
   refine A5 rfl ?_
   refine A5 rfl ?_
   refine A1 rfl (w_tlen 0 rfl D6 (A0 rfl) rfl) ?_
   refine A1 rfl (F7 rfl (A0 rfl) (A0 rfl)) ?_
   refine A4 ?_
   refine C0 (A0 rfl) ?_ ?_
   ·intro h32
    have k32 := of_decide_eq_true h32; try simp only [A6] at k32
    have hm := hinv.2.2.2.1
    have hlt1 : k + j < l.length := by omega
    obtain ⟨x1, hx1⟩ := get_some hlt1
    obtain ⟨y1, hy1⟩ := get_some (show k + j - 1 < l.length by omega)
    have hmx := AG4 hinv.2.2.2.2.2 hx1 (by omega)
    have hmy := AG4 hinv.2.2.2.2.2 hy1 (by omega)
    refine C1 (A3 (C3 (A3 ?_)))
    refine H7 (by kernel_rfl) (by kernel_rfl) rfl ?_
    refine B3 rfl rfl (C4 rfl (A0 rfl)) ?_
    refine B3 rfl rfl (C4 rfl (A0 rfl)) ?_
    refine B3 rfl rfl (Af5 0 rfl D6 D2 (A0 rfl) rfl (A0 rfl) (by omega) (by simp only [A6]; omega)) ?_
    refine B3 rfl rfl (j3 0 rfl (A0 rfl) rfl E6 (u7 hmx (by rw [show ((k : Int).toNat + (j : Int).toNat) = k + j by omega]))) ?_
    refine B3 rfl rfl (C4 rfl (A0 rfl)) ?_
    refine B3 rfl rfl (C4 rfl (A0 rfl)) ?_
    refine B3 rfl rfl (O8 rfl (A0 rfl) B4 (by first | omega | (simp only [D3, B0, szR] at *; omega))) ?_
    refine B3 rfl rfl (Af5 0 rfl D6 D2 (A0 rfl) rfl (A0 rfl) (by omega) (by simp only [A6]; omega)) ?_
    refine B3 rfl rfl (j3 0 rfl (A0 rfl) rfl E6 (u7 hmy (by rw [show ((k : Int).toNat + ((j : Int) - 1).toNat) = k + j - 1 by omega]))) ?_
    refine B3 rfl rfl (a7 rfl (A0 rfl) (A0 rfl)) ?_
    refine O4 ?_
    refine C0 (A0 rfl) ?_ ?_
    ·intro h44
     refine A3 (A2 ?_)
     refine A5 rfl ?_
     refine A5 rfl ?_
     refine A5 rfl ?_
     refine A5 rfl ?_
     refine A1 rfl (Af5 0 rfl D6 D2 (A0 rfl) rfl (A0 rfl) (by omega) (by simp only [A6]; omega)) ?_
     refine A1 rfl (j3 0 rfl (A0 rfl) rfl E6 (u7 hmx (by rw [show ((k : Int).toNat + (j : Int).toNat) = k + j by omega]))) ?_
     refine A1 rfl (K9 0 rfl D6 D2 (A0 rfl) rfl (A0 rfl) (by omega) (by simp only [A6]; omega)) ?_
     refine R8 0 rfl rfl rfl (A0 rfl) (A0 rfl) (S5 _) rfl D2 rfl (by simp only [A6, Int.toNat_natCast]; omega) ?_
     refine A4 (A2 ?_)
     refine A5 rfl ?_
     refine A1 rfl (E9 rfl (A0 rfl) B4 (by first | omega | (simp only [D3, B0, szR] at *; omega))) ?_
     refine B1 rfl ?_
     refine A4 (A2 ?_)
     refine A5 rfl ?_
     refine A1 rfl (E9 rfl (A0 rfl) B4 (by first | omega | (simp only [D3, B0, szR] at *; omega))) ?_
     refine B1 rfl ?_
     refine A4 ?_
     refine Y0 i j m (i + 1) (j + 1) (m.set i x1) ?_ ?_ (J9 (by first | exact congrArg (fun z => [Own.arr v 9 1 z]) (List.map_set).symm | rfl) ⟨rfl, rfl, rfl, rfl, rfl, rfl, rfl, rfl, rfl, rfl, rfl, rfl, rfl, rfl, rfl, rfl, rfl, rfl, rfl, rfl, rfl, trivial⟩)
     ·exact cmp_keep hinv (by omega) hx1 hy1 (by simpa using h44)
     omega
    intro h44
    refine C1 (A2 ?_)
    refine A5 rfl ?_
    refine A1 rfl (E9 rfl (A0 rfl) B4 (by first | omega | (simp only [D3, B0, szR] at *; omega))) ?_
    refine B1 rfl ?_
    refine A4 ?_
    refine Y0 i j m (i) (j + 1) (m) ?_ ?_ (J9 (by first | exact congrArg (fun z => [Own.arr v 9 1 z]) (List.map_set).symm | rfl) ⟨rfl, rfl, rfl, rfl, rfl, rfl, rfl, rfl, rfl, rfl, rfl, rfl, rfl, rfl, rfl, rfl, rfl, rfl, rfl, rfl, rfl, trivial⟩)
    ·exact cmp_skip hinv (by omega) hx1 hy1 (by simpa using h44)
    omega
   intro h32
   have k32 := of_decide_eq_false h32; try simp only [A6] at k32
   have hm := hinv.2.2.2.1
   have hge : k + j = l.length := by omega
   refine F1 ?_
   refine A3 (A2 ?_)
   refine A5 rfl ?_
   refine A5 rfl ?_
   refine A1 rfl (Aa6 0 rfl D6 D2 (A0 rfl) rfl (A0 rfl) (by first | omega | (simp only [D3, B0, szR] at *; omega)) (by first | omega | (simp only [D3, B0, szR] at *; omega))) ?_
   refine At5 0 rfl rfl rfl D6 Tryz.zeroValue9 rfl rfl (by decide) (A0 rfl) rfl (by simp only [A6, Int.toNat_natCast]; omega) ?_
   refine A4 (A3 (A2 ?_))
   refine A5 rfl ?_
   refine A5 rfl ?_
   refine sq_ahi 0 rfl rfl rfl rfl D6 D2 (A0 rfl) rfl (A0 rfl) (by omega) (by simp only [A6, I5, F8, List.length_replicate]; omega) ?_
   intro v59_1
   refine B1 rfl ?_
   refine A4 ?_
   refine B8 ?_
   exact U7 [0] v59_1 (trivial) rfl (by first | exact congrArg (fun z => [Own.arr _ 9 1 (List.map (fun s => [AV.str s]) z)]) hall | (refine congrArg (fun z => [Own.arr _ 9 1 z]) ?_; exact (AR9 hinv.2.2.2.2.1 hge (by omega)).symm)) (V6 rfl (B7 rfl (by first | rfl | (refine congrArg AV.bool ?_; simp_all; done))))
  intro h25
  refine C1 (A2 ?_)
  refine A5 rfl ?_
  refine A1 rfl (E9 rfl (A0 rfl) B4 (by first | omega | (simp only [D3, B0, szR] at *; omega))) ?_
  refine B1 rfl ?_
  refine A4 ?_
  refine H6 k (k + 1) ?_ ?_ (G6 ⟨rfl, rfl, trivial⟩)
  ·exact ⟨⟨by omega, by omega⟩, fun i h1 h2 => if e : i = k then (by subst e; rw [hx, hy]; intro e; injection e with e; subst e; simp at h25) else hinv.2 i h1 (by omega)⟩
  omega
 intro h13
 have k13 := of_decide_eq_false h13; try simp only [A6] at k13
 have hall : cmpL l = l := by (unfold cmpL; rw [x4 (Nat.le_refl _) (fun i h1 h2 => hinv.2 i h1 (by omega)), List.take_length])
 refine F1 ?_
 refine A3 (A2 ?_)
 refine A5 rfl ?_
 refine B1 rfl ?_
 refine A4 ?_
 refine B8 ?_
 exact U7 [0] v (trivial) rfl (by first | exact congrArg (fun z => [Own.arr _ 9 1 (List.map (fun s => [AV.str s]) z)]) hall | (refine congrArg (fun z => [Own.arr _ 9 1 z]) ?_; exact (AR9 hinv.2.2.2.2.1 hge (by omega)).symm)) (V6 rfl (B7 rfl (by first | rfl | (refine congrArg AV.bool ?_; simp_all; done))))
end Go.Proofs.YtkegepoihkhihaaGreat

namespace Go.M
open Go.AV
theorem Aw1 {l : List TWrite} (h : adj wLess l = true) (k : Str) : wHas l k = hasK l k := by
  have e := findW_eq h k
  cases hw : wHas l k with
  | true =>
    obtain ⟨x, hx, hk⟩ := wHas_iff.1 hw
    exact (Z8.2 ⟨x, H5 hx, hk⟩).symm
  | false =>
    rw [hw] at e
    simp only [Bool.false_eq_true, if_false] at e
    unfold findW at e
    rw [List.find?_eq_none] at e
    cases hk : hasK l k with
    | false => rfl
    | true => obtain ⟨x, hx, hxk⟩ := Z8.1 hk; have := e x hx; simp [hxk] at this
theorem Ar2 {w : List TWrite} (h : goodWrites w = true) : adj wLess w = true := by
  unfold goodWrites areRising wKeys at h
  simp only [Bool.and_eq_true] at h
  have := h.1.2.2
  rw [AI4] at this
  exact this
theorem Aw2 {l : List TCell} (ha : adj cLess l = true) {k : Str} {c : TCell} (hc : cHas l k = true → l[cPos l k]? = some c) : fullC l k = (cHas l k && decide ((16 : Int) ≤ (c.Vers.length : Int))) := by
  unfold fullC
  rw [AM4 ha]
  cases h : cHas l k with
  | false => simp
  | true =>
    rw [if_pos rfl, hc h, Bool.true_and]
    dsimp only
    rw [decide_eq_decide]; omega
theorem p7 {l : List THeld} {i : Nat} {h : THeld} {n : Nat} (hs : sizeL THeld.size l ≤ n) (hx : l[i]? = some h) : h.size ≤ n ∧ sizeL TWrite.size h.Writes ≤ n ∧ h.Writes.length ≤ n ∧ h.Reads.length ≤ n ∧ (hRec h).size ≤ n := by
  have h1 := Nat.le_trans (Q1 hx) hs
  have h2 : h.size = sizeL (fun x => x.length) h.Reads + sizeL TWrite.size h.Writes := rfl
  have h3 := L4 (f := fun x : Str => x.length) (l := h.Reads)
  have h4 := L4 (f := TWrite.size) (l := h.Writes)
  have h5 : (hRec h).size = sizeL (fun x => x.length) h.Reads + sizeL TWrite.size h.Writes := rfl
  exact ⟨by omega, by omega, by omega, by omega, by omega⟩
theorem AZ1 {α : Type} {f : α → Nat} {l : List α} (i : Nat) : sizeL f (l.take i) ≤ sizeL f l := by
  have := Ad8 (f := f) (l := l.take i) (r := l.drop i)
  rw [List.take_append_drop] at this; omega
theorem Ao1 : ∀ {l : List THeld}, (hWs l).length ≤ sizeL THeld.size l
  | [] => Nat.zero_le _
  | h :: l => by
    have ih := Ao1 (l := l)
    have h4 := L4 (f := TWrite.size) (l := h.Writes)
    have h2 : h.size = sizeL (fun x => x.length) h.Reads + sizeL TWrite.size h.Writes := rfl
    rw [u5, I5, AC9]; omega
theorem Af7 {l : List THeld} {i : Nat} {h : THeld} (hx : l[i]? = some h) : hWs (l.take (i + 1)) = hWs (l.take i) ++ h.Writes := by
  rw [List.take_add_one, hx, AP0]
  show _ ++ hWs [h] = _
  rw [u5]; simp [hWs]
def hCmp (n : Int) (h : THeld) : Int := cmpInt h.Txn n
def hPos (l : List THeld) (n : Int) : Nat := bs (hCmp n) l 0 l.length
def hHas (l : List THeld) (n : Int) : Bool := bsAt (hCmp n) l (hPos l n)
theorem AD1 (a b : Int) : cmpInt a b < 0 ↔ a < b := by unfold cmpInt; split <;> (try split) <;> omega
theorem AK1 (a b : Int) : cmpInt a b = 0 ↔ a = b := by unfold cmpInt; split <;> (try split) <;> omega
theorem Ao2 {α : Type} {f : α → Int} {l : List α} (h : l.Pairwise fun a b => f a < f b) {i j : Nat} {x y : α} (hij : i < j) (hx : l[i]? = some x) (hy : l[j]? = some y) : f x < f y := by
  obtain ⟨i1, i2⟩ := List.getElem?_eq_some_iff.1 hx
  obtain ⟨j1, j2⟩ := List.getElem?_eq_some_iff.1 hy
  have := List.pairwise_iff_getElem.1 h i j i1 j1 hij
  rw [i2, j2] at this; exact this
theorem bsI_spec {α : Type} {f : α → Int} {l : List α} (h : l.Pairwise fun a b => f a < f b) (n : Int) : (∀ i x, i < bs (fun a => cmpInt (f a) n) l 0 l.length → l[i]? = some x → f x < n) ∧ (∀ x, l[bs (fun a => cmpInt (f a) n) l 0 l.length]? = some x → n ≤ f x) := by
  have := AS1 (fun a => cmpInt (f a) n) l (fun i j x y hij hx hy hf => by
    rw [AD1] at *
    have := Ao2 h hij hx hy; omega) l.length 0 l.length rfl (Nat.zero_le _) (Nat.le_refl _) (fun k x hk => by omega) (fun x hx => by rw [List.getElem?_eq_none (Nat.le_refl _)] at hx; cases hx)
  exact ⟨fun i x hi hx => (AD1 _ _).1 (this.1 i x hi hx), fun x hx => by have := this.2 x hx; rw [AD1] at this; omega⟩
theorem bsI_has {α : Type} {f : α → Int} {l : List α} (h : l.Pairwise fun a b => f a < f b) (n : Int) : bsAt (fun a => cmpInt (f a) n) l (bs (fun a => cmpInt (f a) n) l 0 l.length) = l.any fun a => f a == n := by
  obtain ⟨h1, h2⟩ := bsI_spec h n
  cases ha : l.any fun a => f a == n with
  | true =>
    rw [List.any_eq_true] at ha
    obtain ⟨x, hx, e⟩ := ha
    obtain ⟨i, hi⟩ := List.getElem?_of_mem hx
    have e : f x = n := by simpa using e
    have hip : bs (fun a => cmpInt (f a) n) l 0 l.length = i := by
      rcases Nat.lt_trichotomy i (bs (fun a => cmpInt (f a) n) l 0 l.length) with h3 | h3 | h3
      · have := h1 i x h3 hi; omega
      · exact h3.symm
      · have hl := (List.getElem?_eq_some_iff.1 hi).1
        have hy := List.getElem?_eq_getElem (show bs (fun a => cmpInt (f a) n) l 0 l.length < l.length by omega)
        have h4 := h2 _ hy
        have h5 := Ao2 h h3 hy hi; omega
    rw [hip]
    unfold bsAt
    rw [hi]
    simp only [(AK1 _ _).2 e]; rfl
  | false =>
    rw [List.any_eq_false] at ha
    unfold bsAt
    cases e : l[bs (fun a => cmpInt (f a) n) l 0 l.length]? with
    | none => rfl
    | some x =>
      have := ha x (H5 e)
      simp only [beq_iff_eq] at this ⊢
      rw [beq_eq_false_iff_ne]
      exact fun k => this ((AK1 _ _).1 k)
theorem Ao3 {l : List THeld} (h : l.Pairwise fun a b => a.Txn < b.Txn) (n : Int) : hHas l n = hasH l n := bsI_has (f := THeld.Txn) h n
theorem c7 {s : TState} {n : Nat} (h : s.size ≤ n) : sizeL TCell.size s.Cells ≤ n ∧ sizeL THeld.size s.Held ≤ n ∧ s.Told.length ≤ n ∧ s.Cells.length ≤ n ∧ s.Held.length ≤ n := by
  have h1 : s.size = sizeL TCell.size s.Cells + sizeL THeld.size s.Held + s.Told.length := rfl
  have h2 := L4 (f := TCell.size) (l := s.Cells)
  have h3 := L4 (f := THeld.size) (l := s.Held)
  exact ⟨by omega, by omega, by omega, by omega, by omega⟩
theorem p8 {s : TState} {i : Nat} {h y : THeld} (hx : s.Held[i]? = some h) (hy : s.Held[i - 1]? = some y) : heldAt s i = (!(((!goodRec (hRec h) || decide (s.Floor < h.Time)) || (decide ((0 : Int) < (i : Int)) && decide (h.Txn ≤ y.Txn)))) && (!((s.Held.take i).any fun g => clash h g) && !(h.Writes.any fun w => decide (h.Time ≤ lastTime s.Cells w.Key)))) := by
  unfold heldAt
  rw [hx]
  have h1 : hPrev s.Held i h.Txn = !(decide ((0 : Int) < (i : Int)) && decide (h.Txn ≤ y.Txn)) := by
    unfold hPrev; rw [hy]; dsimp only
    congr 2
    rw [decide_eq_decide]; omega
  have h2 : ((s.Held.take i).all fun g => apart g h.Reads h.Writes) = !((s.Held.take i).any fun g => clash h g) := by
    rw [List.not_any_eq_all_not]; congr 1; funext g; rw [AJ6, Bool.not_not]
  have h3 : (h.Writes.all fun w => decide (lastTime s.Cells w.Key < h.Time)) = !(h.Writes.any fun w => decide (h.Time ≤ lastTime s.Cells w.Key)) := by
    rw [List.not_any_eq_all_not]; congr 1; funext w; rw [← decide_not, decide_eq_decide]; omega
  dsimp only
  rw [h1, h2, h3]
  simp only [Bool.not_or, Bool.not_not, Bool.and_assoc]
theorem AK2 {s : TState} {i : Nat} {h : THeld} (hx : s.Held[i]? = some h) (hg : heldAt s i = true) : goodRec (hRec h) = true ∧ ∀ g, 0 < i → s.Held[i - 1]? = some g → g.Txn < h.Txn := by
  unfold heldAt at hg
  rw [hx] at hg
  simp only [Bool.and_eq_true, AG6] at hg
  exact ⟨hg.1.1.1.1, hg.1.1.2⟩
theorem AM7 {h : THeld} (hg : goodRec (hRec h) = true) : adj wLess h.Writes = true := by
  unfold goodRec hRec at hg
  rw [if_pos rfl] at hg
  unfold good1 at hg
  simp only [Bool.and_eq_true] at hg
  exact Ar2 hg.1.1.2
theorem Af8 {s : TState} (h : areHeld s = true) : s.Held.Pairwise fun a b => a.Txn < b.Txn := by
  unfold areHeld at h
  rw [Bool.and_eq_true, e8] at h
  exact AD0 fun i x y h0 hx hy => (AK2 hx (h.1 i (List.getElem?_eq_some_iff.1 hx).1)).2 y h0 hy
theorem y6 {s : TState} {i : Nat} {t y : TTold} (hx : s.Told[i]? = some t) (hy : s.Told[i - 1]? = some y) : toldAt s i = (!((!isTxnR t.Txn || !((t.Yes && within t.Time 1 s.Floor) || (!t.Yes && (t.Time == 0)))) || (decide ((0 : Int) < (i : Int)) && decide (t.Txn ≤ y.Txn))) && !hasH s.Held t.Txn) := by
  unfold toldAt
  rw [hx]
  have h1 : tPrev s.Told i t.Txn = !(decide ((0 : Int) < (i : Int)) && decide (t.Txn ≤ y.Txn)) := by
    unfold tPrev; rw [hy]; dsimp only
    congr 2
    rw [decide_eq_decide]; omega
  have h2 : tFits s t = ((t.Yes && within t.Time 1 s.Floor) || (!t.Yes && (t.Time == 0))) := by
    unfold tFits; cases t.Yes <;> simp
  dsimp only
  rw [h1, h2]
  generalize ((t.Yes && within t.Time 1 s.Floor) || (!t.Yes && (t.Time == 0))) = b
  simp only [Bool.not_or, Bool.not_not, Bool.and_assoc]
end Go.M
namespace Go.Proofs.YtkegepoihkhihaaGreat
open Go Go.AV Go.M
attribute [local irreducible] OpW OpA OpS AWP FSpec ESpec GSpec OpE RetOk RetOkG RvDen Le Ev GuardIs SrcIs Int.tmod Int.tdiv IntKind.wrap
theorem AZ2 (w : TWrite) (os : List TWrite) (rs : List Str) (hs : os.length ≤ 4611686018427387903) (ha : adj wLess os = true) : FSpec Tryz.prog 218 [AV.agg w.cs, AV.eptr [AV.list 3 (os.map TWrite.cs)], AV.eptr [strs rs]] (AV.bool (hasK os w.Key || hasS rs w.Key)) := by
 have hwh := Aw1 ha w.Key
 refine D0 Tryz.func218 rfl Tryz.ntmps218 rfl ?_
 refine A3 (A2 ?_)
 refine I6 rfl rfl rfl rfl (A0 rfl) ?_
 intro b3
 refine A1 rfl (A7 rfl E2) ?_
 refine A4 (A3 (A2 ?_))
 refine A1 rfl (K1 rfl (A0 rfl) K6 rfl) ?_
 refine A1 rfl (B5 0 rfl G7 rfl D2 (A0 rfl) rfl) ?_
 refine A1 rfl (B2 0 rfl (A0 rfl) rfl E6 rfl) ?_
 refine A1 rfl (D8 rfl Tryz.call219 rfl (AS9 _ _ (by omega)) (A8 (A0 rfl) (A8 (A0 rfl) C8))) ?_
 refine A5 rfl ?_
 refine A1 rfl (K3 rfl (A0 rfl) rfl) ?_
 refine A1 rfl (K3 rfl (A0 rfl) rfl) ?_
 refine B1 rfl ?_
 refine B1 rfl ?_
 refine A4 (A3 (A2 ?_))
 refine A5 rfl ?_
 refine A5 rfl ?_
 refine I3 rfl (fun hc => K1 rfl (A0 rfl) N4 rfl) ?_
 refine I3 rfl (fun hc => B5 0 rfl G7 rfl D2 (A0 rfl) rfl) ?_
 refine I3 rfl (fun hc => B2 0 rfl (A9 rfl hc) rfl E6 rfl) ?_
 refine I3 rfl (fun hc => D8 rfl Tryz.call220 rfl (AE8 _ _) (A8 (A9 rfl hc) (A8 (A9 rfl hc) C8))) ?_
 refine A1 rfl (P4 rfl (A0 rfl) (F6 rfl)) ?_
 refine B1 rfl ?_
 refine A4 ?_
 refine B8 ?_
 exact E4 rfl (B7 rfl (by exact congrArg AV.bool (by rw [hwh]; rfl)))
theorem AG9 (ws : List TWrite) (rs : List Str) (os : List TWrite) (hs : os.length ≤ 4611686018427387903) (ha : adj wLess os = true) : FSpec Tryz.prog 187 [AV.list 3 (ws.map TWrite.cs), strs rs, AV.list 3 (os.map TWrite.cs)] (AV.bool (overlap ws rs os)) := by
 refine D0 Tryz.func187 rfl Tryz.ntmps187 rfl ?_
 refine A3 (A2 ?_)
 refine Am5 rfl rfl rfl rfl (A0 rfl) (AK8 _ _) ?_
 intro b4
 refine Am5 rfl rfl rfl rfl (A0 rfl) (AK8 _ _) ?_
 intro b5
 refine A1 rfl (A7 rfl E2) ?_
 refine A4 (A3 (A2 ?_))
 refine A5 rfl ?_
 refine A1 rfl (w_clo rfl rfl (A8 (A0 rfl) (A8 (A0 rfl) C8))) ?_
 refine A1 rfl (Z1 rfl Tryz.call141 rfl (Y4 _ _ _ (by first | (intros; trivial) | assumption | (intros; first | trivial | (simp_all; done)))) (C2 _) (M5 (evb (A0 rfl)) (M5 (AB7 (Ab3 0 1 (A0 rfl) rfl rfl) (AL1 Tryz.call218 (fun w (_ : True) => AZ2 w _ _ (by first | assumption | omega) (by assumption)))) T4))) ?_
 refine B1 rfl ?_
 refine A4 ?_
 refine B8 ?_
 exact E4 rfl (B7 rfl (by first | rfl | (refine congrArg AV.bool ?_; simp_all; done)))
theorem Ar3 (h k : THeld) (h1 : h.Writes.length ≤ 4611686018427387903) (k1 : k.Writes.length ≤ 4611686018427387903) (ha : adj wLess h.Writes = true) (ka : adj wLess k.Writes = true) : FSpec Tryz.prog 140 [AV.agg h.cs, AV.agg k.cs] (AV.bool (clash h k)) := by
 refine D0 Tryz.func140 rfl Tryz.ntmps140 rfl ?_
 refine A3 (A2 ?_)
 refine I6 rfl rfl rfl rfl (A0 rfl) ?_
 intro b2
 refine I6 rfl rfl rfl rfl (A0 rfl) ?_
 intro b3
 refine A1 rfl (A7 rfl E2) ?_
 refine A4 (A3 (A2 ?_))
 refine A1 rfl (B5 4 rfl E1 rfl J6 (A0 rfl) rfl) ?_
 refine A1 rfl (B2 1 rfl (A0 rfl) rfl K6 rfl) ?_
 refine A1 rfl (B5 3 rfl E1 rfl L0 (A0 rfl) rfl) ?_
 refine A1 rfl (B2 0 rfl (A0 rfl) rfl N4 rfl) ?_
 refine A1 rfl (B5 4 rfl E1 rfl J6 (A0 rfl) rfl) ?_
 refine A1 rfl (B2 0 rfl (A0 rfl) rfl K6 rfl) ?_
 refine A1 rfl (D8 rfl Tryz.call187 rfl (AG9 _ _ _ (by first | assumption | omega) (by assumption)) (A8 (A0 rfl) (A8 (A0 rfl) (A8 (A0 rfl) C8)))) ?_
 refine A5 rfl ?_
 refine I3 rfl (fun hc => B5 4 rfl E1 rfl J6 (A0 rfl) rfl) ?_
 refine I3 rfl (fun hc => B2 0 rfl (A9 rfl hc) rfl K6 rfl) ?_
 refine I3 rfl (fun hc => B5 3 rfl E1 rfl L0 (A0 rfl) rfl) ?_
 refine I3 rfl (fun hc => B2 1 rfl (A9 rfl hc) rfl N4 rfl) ?_
 refine I3 rfl (fun hc => B5 4 rfl E1 rfl J6 (A0 rfl) rfl) ?_
 refine I3 rfl (fun hc => B2 1 rfl (A9 rfl hc) rfl K6 rfl) ?_
 refine I3 rfl (fun hc => D8 rfl Tryz.call187 rfl (AG9 _ _ _ (by first | assumption | omega) (by assumption)) (A8 (A9 rfl hc) (A8 (A9 rfl hc) (A8 (A9 rfl hc) C8)))) ?_
 refine A1 rfl (P4 rfl (A0 rfl) (F6 rfl)) ?_
 refine B1 rfl ?_
 refine A4 ?_
 refine B8 ?_
 exact E4 rfl (B7 rfl (by first | rfl | (refine congrArg AV.bool ?_; simp_all; done)))
theorem rec_spec (h : THeld) : FSpec Tryz.prog 137 [AV.agg h.cs] (AV.agg (hRec h).cs) := by
 refine D0 Tryz.func137 rfl Tryz.ntmps137 rfl ?_
 refine A3 (A2 ?_)
 refine I6 rfl rfl rfl rfl (A0 rfl) ?_
 intro b1
 refine I2 rfl rfl rfl rfl Tryz.zeroValue104 rfl ?_
 intro b2
 refine A4 (A3 (A2 ?_))
 refine A1 rfl (B5 0 rfl E1 rfl B9 (A0 rfl) rfl) ?_
 refine A1 rfl (B2 1 rfl (A0 rfl) rfl D1 rfl) ?_
 refine A1 rfl (B5 1 rfl E1 rfl B9 (A0 rfl) rfl) ?_
 refine A1 rfl (B2 1 rfl (A0 rfl) rfl D1 rfl) ?_
 refine A1 rfl (B5 2 rfl E1 rfl B9 (A0 rfl) rfl) ?_
 refine A1 rfl (B2 1 rfl (A0 rfl) rfl D1 rfl) ?_
 refine A1 rfl (B5 3 rfl E1 rfl L0 (A0 rfl) rfl) ?_
 refine A1 rfl (B2 1 rfl (A0 rfl) rfl N4 rfl) ?_
 refine A1 rfl (B5 4 rfl E1 rfl J6 (A0 rfl) rfl) ?_
 refine A1 rfl (B2 1 rfl (A0 rfl) rfl K6 rfl) ?_
 refine A1 rfl (Z0 (places := #[(0, 1), (1, 1), (2, 1), (3, 1), (4, 1), (5, 1), (6, 1)]) rfl E0 Tryz.zeroValue104 (fun w => by kernel_rfl) rfl (M8 B4 (P0 _ _) (M8 (A0 rfl) (P0 _ _) (M8 (A0 rfl) (P0 _ _) (M8 (A0 rfl) (P0 _ _) (M8 (A0 rfl) (c4 _ _) (M8 (A0 rfl) (c4 _ _) S7)))))) rfl) ?_
 refine G9 0 rfl rfl rfl (A0 rfl) (A0 rfl) (I7 _) rfl Tryz.sizeOf104 rfl ?_
 refine A4 ?_
 refine B8 ?_
 exact E4 rfl (S6 (ys := _) 0 rfl rfl Tryz.isAgg104 Tryz.sizeOf104 rfl)
theorem Af9 {l : List TCell} {h : List THeld} (a b : Nat) (hl : sizeL TCell.size l ≤ 1048576) (hh : sizeL THeld.size h ≤ 1048576) : (cKeys (l.take a) ++ wKeys (hWs (h.take b))).length ≤ 2097152 := by
  have h1 := L4 (f := TCell.size) (l := l)
  have h2 := Ao1 (l := h.take b)
  have h3 := AZ1 (f := THeld.size) (l := h) b
  unfold cKeys wKeys
  simp only [I5, A6, F8]
  omega
theorem Aw3 (s : TState) (held : List THeld) (hg : goodCells s.Cells = true) (hs : s.size ≤ 1048576) (hh : sizeL THeld.size held ≤ 1048576) : FSpec Tryz.prog 143 [AV.agg s.cs, AV.list 5 (held.map THeld.cs)] (AV.bool (decide (held.length ≤ 12) && room s.Cells (hWs held))) := by
 obtain ⟨hs1, hs2, hs3, hs4, hs5⟩ := c7 hs
 have hca := (Q3 hg).2.1
 have hhl := L4 (f := THeld.size) (l := held)
 obtain ⟨p, hp⟩ : ∃ p : TWrite → Bool, p = fun w => !fullC s.Cells w.Key := ⟨_, rfl⟩
 refine D0 Tryz.func143 rfl Tryz.ntmps143 rfl ?_
 refine A3 (A2 ?_)
 refine I6 rfl rfl rfl rfl (A0 rfl) ?_
 intro b2
 refine A1 rfl (A7 rfl E2) ?_
 refine A4 (A3 (A2 ?_))
 refine T2 rfl rfl rfl rfl D6 D2 ?_
 intro v14
 refine B1 rfl ?_
 refine A4 (A3 (A3 (A2 ?_)))
 refine A1 rfl (B5 1 rfl E3 rfl L6 (A0 rfl) rfl) ?_
 refine A1 rfl (B2 1 rfl (A0 rfl) rfl O3 rfl) ?_
 refine A1 rfl (E7 rfl F3 (A0 rfl)) ?_
 refine A1 rfl (C4 rfl B4) ?_
 refine A4 (C3 ?_)
 refine Y3 [(1, _), (2, _), (4, _), (16, _), (17, _)] _ (fun (i : Nat) (v : Value) (ks : List Str) => i ≤ s.Cells.length ∧ ks = cKeys (s.Cells.take i)) (fun (i : Nat) (v : Value) (ks : List Str) => [.arr v 9 1 (ks.map fun k => [AV.str k])]) (fun (i : Nat) (v : Value) (ks : List Str) => [(5, AV.is v), (18, AV.int i)]) (fun (i : Nat) (v : Value) (ks : List Str) => s.Cells.length - i) (0) (v14) ([]) ?_ (J9 (by rfl) ⟨rfl, rfl, rfl, rfl, rfl, rfl, rfl, trivial⟩) ?_
 ·exact ⟨Nat.zero_le _, rfl⟩
 intro i v ks hinv
 refine A3 (A2 ?_)
 refine A1 rfl (F7 rfl (A0 rfl) (A0 rfl)) ?_
 refine A4 (A3 ?_)
 refine C0 (A0 rfl) ?_ ?_
 ·intro h19
  have k19 := of_decide_eq_true h19; try simp only [A6] at k19
  have hlt : i < s.Cells.length := by omega
  obtain ⟨c, hx⟩ := get_some hlt
  have hkl : ks.length ≤ 1048576 := by rw [hinv.2]; unfold cKeys; rw [A6, F8]; omega
  refine C1 (A3 (C3 (A3 (A2 ?_))))
  refine A1 rfl (I8 rfl F3 F2 (A0 rfl) (A0 rfl) hx (by first | omega | (simp only [D3, B0, szR] at *; omega))) ?_
  refine A1 rfl (H0 rfl (A0 rfl) O0 F2) ?_
  refine I2 rfl rfl rfl rfl Tryz.zeroValue125 rfl ?_
  intro b7
  refine G9 0 rfl rfl rfl (A0 rfl) (A0 rfl) (I7 _) rfl F2 rfl ?_
  refine A4 (A2 ?_)
  refine A5 rfl ?_
  refine A1 rfl (B5 0 rfl F9 rfl D2 (A0 rfl) rfl) ?_
  refine A1 rfl (B2 0 rfl (A0 rfl) rfl E6 rfl) ?_
  refine A1 rfl (W4 rfl D6 D2 Tryz.zeroValue9 rfl rfl rfl rfl (M8 (A0 rfl) (S5 _) S7) rfl rfl) ?_
  refine U6 (by' := 16) 1 rfl rfl rfl rfl D6 Tryz.type9 rfl rfl rfl rfl rfl rfl (A0 rfl) (A0 rfl) rfl (by first | omega | (simp only [D3, B0, szR] at *; omega)) ?_
  intro v26_1
  refine B1 rfl ?_
  refine A4 (A2 ?_)
  refine A1 rfl (E9 rfl (A0 rfl) B4 (by first | omega | (simp only [D3, B0, szR] at *; omega))) ?_
  refine A5 rfl ?_
  refine A4 ?_
  refine Y0 i v ks (i + 1) (v26_1) (ks ++ [c.Key]) ?_ ?_ (S8 1 (by (rw [List.map_append]; rfl)) ⟨rfl, rfl, rfl, rfl, rfl, rfl, rfl, trivial⟩)
  ·exact ⟨by omega, by rw [hinv.2]; unfold cKeys; rw [List.take_add_one, hx, List.map_append]; rfl⟩
  omega
 intro h19
 have k19 := of_decide_eq_false h19; try simp only [A6] at k19
 have hge : s.Cells.length ≤ i := by omega
 have hks : ks = cKeys s.Cells := by rw [hinv.2, List.take_of_length_le hge]
 refine F1 ?_
 refine A3 (A3 (A2 ?_))
 refine A5 rfl ?_
 refine A1 rfl (E7 rfl F5 (A0 rfl)) ?_
 refine A1 rfl (C4 rfl B4) ?_
 refine A4 (C3 ?_)
 refine Y3 [(1, _), (2, _), (28, _), (29, _)] _ (fun (q : Nat) (v1 : Value) (k1 : List Str) => q ≤ held.length ∧ k1 = cKeys s.Cells ++ wKeys (hWs (held.take q)) ∧ (hWs held).all p = (hWs (held.drop q)).all p) (fun (q : Nat) (v1 : Value) (k1 : List Str) => [.arr v1 9 1 (k1.map fun k => [AV.str k])]) (fun (q : Nat) (v1 : Value) (k1 : List Str) => [(5, AV.is v1), (30, AV.int q)]) (fun (q : Nat) (v1 : Value) (k1 : List Str) => held.length - q) (0) (v) (ks) ?_ (J9 (by rfl) ⟨rfl, rfl, rfl, rfl, rfl, rfl, trivial⟩) ?_
 ·exact ⟨Nat.zero_le _, by rw [hks, List.take_zero]; simp [hWs, wKeys], rfl⟩
 intro q v1 k1 hinv
 refine A3 (A2 ?_)
 refine A1 rfl (F7 rfl (A0 rfl) (A0 rfl)) ?_
 refine A4 (A3 ?_)
 refine C0 (A0 rfl) ?_ ?_
 ·intro h31
  have k31 := of_decide_eq_true h31; try simp only [A6] at k31
  have hlt : q < held.length := by omega
  obtain ⟨h, hh0⟩ := get_some hlt
  obtain ⟨g1, g2, g3, g4, g5⟩ := p7 hh hh0
  have hinv1 := hinv
  refine C1 (A3 (C3 (A3 (A2 ?_))))
  refine A1 rfl (I8 rfl F5 E8 (A0 rfl) (A0 rfl) hh0 (by first | omega | (simp only [D3, B0, szR] at *; omega))) ?_
  refine A1 rfl (H0 rfl (A0 rfl) K5 E8) ?_
  refine I2 rfl rfl rfl rfl Tryz.zeroValue141 rfl ?_
  intro b9
  refine G9 0 rfl rfl rfl (A0 rfl) (A0 rfl) (I7 _) rfl E8 rfl ?_
  refine A4 (A3 (A2 ?_))
  refine A1 rfl (B5 4 rfl E1 rfl J6 (A0 rfl) rfl) ?_
  refine A1 rfl (B2 0 rfl (A0 rfl) rfl K6 rfl) ?_
  refine A1 rfl (E7 rfl F0 (A0 rfl)) ?_
  refine A1 rfl (C4 rfl B4) ?_
  refine A4 (C3 ?_)
  refine AWP.le (P2 [1] rfl) ?_
  refine Y3 [(1, _), (2, _), (9, _), (28, _), (29, _), (30, _), (31, _), (32, _), (33, _), (34, _), (35, _), (36, _)] _ (fun (r : Nat) (v2 : Value) (k2 : List Str) => r ≤ h.Writes.length ∧ k2 = k1 ++ wKeys (h.Writes.take r) ∧ h.Writes.all p = (h.Writes.drop r).all p) (fun (r : Nat) (v2 : Value) (k2 : List Str) => [.arr v2 9 1 (k2.map fun k => [AV.str k])]) (fun (r : Nat) (v2 : Value) (k2 : List Str) => [(5, AV.is v2), (37, AV.int r)]) (fun (r : Nat) (v2 : Value) (k2 : List Str) => h.Writes.length - r) (0) (v1) (k1) ?_ (J9 (by rfl) ⟨rfl, rfl, rfl, rfl, rfl, rfl, rfl, rfl, rfl, rfl, rfl, rfl, rfl, rfl, trivial⟩) ?_
  ·exact ⟨Nat.zero_le _, by simp [wKeys], rfl⟩
  intro r v2 k2 hinv
  refine A3 (A2 ?_)
  refine A1 rfl (F7 rfl (A0 rfl) (A0 rfl)) ?_
  refine A4 (A3 ?_)
  refine C0 (A0 rfl) ?_ ?_
  ·intro h38
   have k38 := of_decide_eq_true h38; try simp only [A6] at k38
   have hlt2 : r < h.Writes.length := by omega
   obtain ⟨w, hw⟩ := get_some hlt2
   obtain ⟨c, hc0⟩ := AA7 s.Cells (cPos s.Cells w.Key)
   have hc1 : cHas s.Cells w.Key = true → s.Cells[cPos s.Cells w.Key]? = some c := fun e => by (obtain ⟨y, hy, _⟩ := AC8.1 e; exact hc0 (List.getElem?_eq_some_iff.1 hy).1)
   have hfu := Aw2 hca hc1
   have hk2l : k2.length ≤ 3145728 := by rw [hinv.2.1, hinv1.2.1]; have := Af9 s.Cells.length q hs1 hh; rw [List.take_length] at this; unfold wKeys at this ⊢; simp only [I5, A6, F8] at this ⊢; omega
   refine C1 (A3 (C3 (A3 (A2 ?_))))
   refine A1 rfl (I8 rfl F0 G5 (A0 rfl) (A0 rfl) hw (by first | omega | (simp only [D3, B0, szR] at *; omega))) ?_
   refine A1 rfl (H0 rfl (A0 rfl) Q4 G5) ?_
   refine I2 rfl rfl rfl rfl Tryz.zeroValue101 rfl ?_
   intro b11
   refine G9 0 rfl rfl rfl (A0 rfl) (A0 rfl) (I7 _) rfl G5 rfl ?_
   refine A4 (A3 (A3 (A2 ?_)))
   refine A1 rfl (B5 1 rfl E3 rfl L6 (A0 rfl) rfl) ?_
   refine A1 rfl (B2 3 rfl (A0 rfl) rfl O3 rfl) ?_
   refine A1 rfl (B5 0 rfl G7 rfl D2 (A0 rfl) rfl) ?_
   refine A1 rfl (B2 0 rfl (A0 rfl) rfl E6 rfl) ?_
   refine A1 rfl (D8 rfl Tryz.call122 rfl (AE4 s.Cells w.Key (by omega)) (A8 (A0 rfl) (A8 (A0 rfl) C8))) ?_
   refine A5 rfl ?_
   refine A1 rfl (K3 rfl (A0 rfl) rfl) ?_
   refine A1 rfl (K3 rfl (A0 rfl) rfl) ?_
   refine B1 rfl ?_
   refine B1 rfl ?_
   refine A4 (A3 (A2 ?_))
   refine A5 rfl ?_
   refine A5 rfl ?_
   refine D4 rfl (fun hc => B5 1 rfl E3 rfl L6 (A0 rfl) rfl) ?_
   refine D4 rfl (fun hc => B2 3 rfl (A9 rfl hc) rfl O3 rfl) ?_
   refine D4 rfl (fun hc => C4 rfl (A0 rfl)) ?_
   refine D4 rfl (fun hc => N5 rfl F3 F2 (A9 rfl hc) (A9 rfl hc) (by have := (List.getElem?_eq_some_iff.1 (hc1 hc)).1; omega) (by rw [Int.toNat_natCast, List.getElem?_map, hc1 hc]; rfl)) ?_
   refine D4 rfl (fun hc => Q8 rfl F9 rfl L2 (A9 rfl hc) rfl) ?_
   refine D4 rfl (fun hc => K1 rfl (A9 rfl hc) O1 rfl) ?_
   refine D4 rfl (fun hc => E7 rfl H4 (A9 rfl hc)) ?_
   refine D4 rfl (fun hc => X3 rfl (A9 rfl hc) B4) ?_
   refine A1 rfl (I1 rfl (A0 rfl) (F6 rfl)) ?_
   refine A4 ?_
   refine C0 (A0 rfl) ?_ ?_
   ·intro h59
    have hpw : p w = false := by rw [hp]; simp only [Bool.not_eq_false']; rw [hfu]; simpa using h59
    have hro : room s.Cells (hWs held) = false := by (unfold room; rw [show ((hWs held).all fun w => !fullC s.Cells w.Key) = false from by rw [← hp, hinv1.2.2, drop_some hh0, u5, List.all_append, hinv.2.2, drop_some hw, List.all_cons, hpw]; rfl]; rfl)
    refine A3 (A2 ?_)
    refine A1 rfl (A7 rfl E2) ?_
    refine A4 ?_
    refine B8 ?_
    exact E4 rfl (B7 rfl (by first | exact congrArg AV.bool (by rw [hro]; simp) | exact congrArg AV.bool (by rw [hre, Bool.eq_iff_iff]; simp only [Bool.and_eq_true, decide_eq_true_eq, decide_eq_false_iff_not, A6, Bool.false_eq_true, and_false, false_and, false_iff] at *; omega)))
   intro h59
   have hpw : p w = true := by rw [hp]; simp only [Bool.not_eq_true']; rw [hfu]; simpa using h59
   refine C1 (A2 ?_)
   refine A5 rfl ?_
   refine A1 rfl (B5 0 rfl G7 rfl D2 (A0 rfl) rfl) ?_
   refine A1 rfl (B2 0 rfl (A0 rfl) rfl E6 rfl) ?_
   refine A1 rfl (W4 rfl D6 D2 Tryz.zeroValue9 rfl rfl rfl rfl (M8 (A0 rfl) (S5 _) S7) rfl rfl) ?_
   refine U6 (by' := 16) 1 rfl rfl rfl rfl D6 Tryz.type9 rfl rfl rfl rfl rfl rfl (A0 rfl) (A0 rfl) rfl (by first | omega | (simp only [D3, B0, szR] at *; omega)) ?_
   intro v64_2
   refine B1 rfl ?_
   refine A4 (A2 ?_)
   refine A1 rfl (E9 rfl (A0 rfl) B4 (by first | omega | (simp only [D3, B0, szR] at *; omega))) ?_
   refine A5 rfl ?_
   refine A4 ?_
   refine Y0 r v2 k2 (r + 1) (v64_2) (k2 ++ [w.Key]) ?_ ?_ (Le.trans (P2 [0, 0] rfl) (S8 1 (by (rw [List.map_append]; rfl)) ⟨rfl, rfl, rfl, rfl, rfl, rfl, rfl, rfl, rfl, rfl, rfl, rfl, rfl, rfl, trivial⟩))
   ·exact ⟨by omega, by rw [hinv.2.1]; unfold wKeys; rw [List.take_add_one, hw, List.map_append, List.append_assoc]; rfl, by rw [hinv.2.2, drop_some hw, List.all_cons, hpw]; rfl⟩
   omega
  intro h38
  have k38 := of_decide_eq_false h38; try simp only [A6] at k38
  have hge2 : h.Writes.length ≤ r := by omega
  have hk2 : k2 = k1 ++ wKeys h.Writes := by rw [hinv.2.1, List.take_of_length_le hge2]
  have hal : h.Writes.all p = true := by rw [hinv.2.2, List.drop_eq_nil_of_le hge2]; rfl
  refine F1 ?_
  refine A2 ?_
  refine A1 rfl (E9 rfl (A0 rfl) B4 (by first | omega | (simp only [D3, B0, szR] at *; omega))) ?_
  refine A5 rfl ?_
  refine A4 ?_
  refine Y0 q v1 k1 (q + 1) (v2) (k2) ?_ ?_ (Le.trans (P2 [1, 0] rfl) (S8 1 (by rfl) ⟨rfl, rfl, rfl, rfl, rfl, rfl, trivial⟩))
  ·exact ⟨by omega, by rw [hk2, hinv1.2.1, Af7 hh0]; simp [wKeys], by rw [hinv1.2.2, drop_some hh0, u5, List.all_append, hal]; rfl⟩
  omega
 intro h31
 have k31 := of_decide_eq_false h31; try simp only [A6] at k31
 have hge : held.length ≤ q := by omega
 have hk9 : k1 = cKeys s.Cells ++ wKeys (hWs held) := by rw [hinv.2.1, List.take_of_length_le hge]
 have hal9 : (hWs held).all p = true := by rw [hinv.2.2, List.drop_eq_nil_of_le hge]; rfl
 have hln := Af9 s.Cells.length held.length hs1 hh
 rw [List.take_length, List.take_length, ← hk9] at hln
 have hre : room s.Cells (hWs held) = decide ((cmpL (sortS k1)).length ≤ 24) := by (unfold room roomKs keysI; rw [← hp, hal9, ← hk9]; rfl)
 refine F1 ?_
 refine A3 (A2 ?_)
 refine A5 rfl ?_
 refine S9 [0] rfl rfl rfl rfl Tryz.call189 rfl (Af6 _ k1 (by omega)) (A8 (A0 rfl) C8) rfl ?_
 intro x68 ok68
 refine A4 (A3 (A2 ?_))
 refine A5 rfl ?_
 refine A1 rfl (E7 rfl F5 (A0 rfl)) ?_
 refine A1 rfl (S3 rfl (A0 rfl) B4) ?_
 refine A5 rfl ?_
 refine D4 rfl (fun hc => C4 rfl (A0 rfl)) ?_
 refine AM1 rfl rfl (O9 rfl rfl rfl) ?_ ?_
 ·intro gh74
  refine S9 [0] rfl rfl rfl rfl Tryz.call190 rfl (AT5 _ (sortS k1) (by rw [AV9]; omega)) (A8 (A9 rfl gh74) C8) rfl ?_
  intro x74 ok74
  refine D4 rfl (fun hc => V3 0 rfl D6 (A0 rfl) rfl) ?_
  refine D4 rfl (fun hc => S3 rfl (A9 rfl hc) B4) ?_
  refine A1 rfl (I1 rfl (A0 rfl) (F6 rfl)) ?_
  refine B1 rfl ?_
  refine A4 ?_
  refine B8 ?_
  exact E4 rfl (B7 rfl (by first | exact congrArg AV.bool (by rw [hro]; simp) | exact congrArg AV.bool (by rw [hre, Bool.eq_iff_iff]; simp only [Bool.and_eq_true, decide_eq_true_eq, decide_eq_false_iff_not, A6, Bool.false_eq_true, and_false, false_and, false_iff] at *; omega)))
 intro gh74
 refine AM1 rfl rfl (O9 rfl rfl rfl) (fun hq => by rw [gh74] at hq; cases hq) (fun _ => ?_)
 refine AM1 rfl rfl (O9 rfl rfl rfl) (fun hq => by rw [gh74] at hq; cases hq) (fun _ => ?_)
 refine A1 rfl (I1 rfl (A0 rfl) (evif_no (x := AV.bool false) gh74)) ?_
 refine B1 rfl ?_
 refine A4 ?_
 refine B8 ?_
 exact E4 rfl (B7 rfl (by first | exact congrArg AV.bool (by rw [hro]; simp) | exact congrArg AV.bool (by rw [hre, Bool.eq_iff_iff]; simp only [Bool.and_eq_true, decide_eq_true_eq, decide_eq_false_iff_not, A6, Bool.false_eq_true, and_false, false_and, false_iff] at *; omega)))
theorem AZ3 (h k : THeld) (h1 : h.Writes.length ≤ 4611686018427387903) (ha : adj wLess h.Writes = true) (hk : adj wLess k.Writes = true ∧ k.Writes.length ≤ 4611686018427387903) : FSpec Tryz.prog 139 [AV.agg k.cs, AV.eptr h.cs] (AV.bool (clash h k)) := by
 obtain ⟨ka, k1⟩ := hk
 refine D0 Tryz.func139 rfl Tryz.ntmps139 rfl ?_
 refine A3 (A2 ?_)
 refine I6 rfl rfl rfl rfl (A0 rfl) ?_
 intro b2
 refine A1 rfl (A7 rfl E2) ?_
 refine A4 (A3 (A2 ?_))
 refine A1 rfl (H0 rfl (A0 rfl) K5 E8) ?_
 refine A1 rfl (L5 0 rfl (A0 rfl) rfl K5 E8 rfl) ?_
 refine A1 rfl (D8 rfl Tryz.call140 rfl (Ar3 _ _ (by first | assumption | omega) (by first | assumption | omega) (by assumption) (by assumption)) (A8 (A0 rfl) (A8 (A0 rfl) C8))) ?_
 refine B1 rfl ?_
 refine A4 ?_
 refine B8 ?_
 exact E4 rfl (B7 rfl (by first | rfl | (refine congrArg AV.bool ?_; simp_all; done)))
theorem AZ4 (h : THeld) (s : TState) (w : TWrite) (ho : CellsOk s.Cells) (hs : sizeL TCell.size s.Cells ≤ 1048576) : FSpec Tryz.prog 142 [AV.agg w.cs, AV.eptr h.cs, AV.eptr s.cs] (AV.bool (decide (h.Time ≤ lastTime s.Cells w.Key))) := by
 refine D0 Tryz.func142 rfl Tryz.ntmps142 rfl ?_
 refine A3 (A2 ?_)
 refine I6 rfl rfl rfl rfl (A0 rfl) ?_
 intro b3
 refine A1 rfl (A7 rfl E2) ?_
 refine A4 (A3 ?_)
 refine H7 (by kernel_rfl) (by kernel_rfl) rfl ?_
 refine B3 rfl rfl (Q8 rfl E1 rfl B9 (A0 rfl) rfl) ?_
 refine B3 rfl rfl (K1 rfl (A0 rfl) D1 rfl) ?_
 refine B3 rfl rfl (Q8 rfl E3 rfl L6 (A0 rfl) rfl) ?_
 refine B3 rfl rfl (K1 rfl (A0 rfl) O3 rfl) ?_
 refine B3 rfl rfl (B5 0 rfl G7 rfl D2 (A0 rfl) rfl) ?_
 refine B3 rfl rfl (B2 0 rfl (A0 rfl) rfl E6 rfl) ?_
 refine B3 rfl rfl (D8 rfl Tryz.call92 rfl (AE5 _ _ (by first | assumption | exact V9 (by assumption)) (by first | assumption | omega)) (A8 (A0 rfl) (A8 (A0 rfl) C8))) ?_
 refine B3 rfl rfl (S3 rfl (A0 rfl) (A0 rfl)) ?_
 refine B3 rfl rfl (A7 rfl (A0 rfl)) ?_
 refine O4 ?_
 refine B8 ?_
 exact E4 rfl (B7 rfl (by first | rfl | (refine congrArg AV.bool ?_; simp_all; done)))
theorem Ag0 (s : TState) (hg : goodCells s.Cells = true) (hs : s.size ≤ 1048576) : FSpec Tryz.prog 91 [AV.agg s.cs] (AV.bool (areHeld s)) := by
 obtain ⟨hs1, hs2, hs3, hs4, hs5⟩ := c7 hs
 have hco := V9 hg
 refine D0 Tryz.func91 rfl Tryz.ntmps91 rfl ?_
 refine A3 (A2 ?_)
 refine I6 rfl rfl rfl rfl (A0 rfl) ?_
 intro b1
 refine A1 rfl (A7 rfl E2) ?_
 refine A4 (A3 (A3 (A2 ?_)))
 refine A1 rfl (B5 2 rfl E3 rfl M9 (A0 rfl) rfl) ?_
 refine A1 rfl (B2 0 rfl (A0 rfl) rfl P9 rfl) ?_
 refine A1 rfl (E7 rfl F5 (A0 rfl)) ?_
 refine A1 rfl (C4 rfl B4) ?_
 refine A4 (C3 ?_)
 refine G4 [(1, _), (6, _), (7, _)] _ (fun (i : Nat) => i ≤ s.Held.length ∧ ∀ j, j < i → heldAt s j = true) (fun (i : Nat) => []) (fun (i : Nat) => [(8, AV.int i)]) (fun (i : Nat) => s.Held.length - i) (0) ?_ (G6 ⟨rfl, rfl, rfl, rfl, trivial⟩) ?_
 ·exact ⟨Nat.zero_le _, fun j hj => by omega⟩
 intro i hinv
 refine A3 (A2 ?_)
 refine A1 rfl (F7 rfl (A0 rfl) (A0 rfl)) ?_
 refine A4 (A3 ?_)
 refine C0 (A0 rfl) ?_ ?_
 ·intro h9
  have k9 := of_decide_eq_true h9; try simp only [A6] at k9
  have hlt : i < s.Held.length := by omega
  obtain ⟨h, hx⟩ := get_some hlt
  obtain ⟨y, hy⟩ := get_some (show i - 1 < s.Held.length by omega)
  obtain ⟨g1, g2, g3, g4, g5⟩ := p7 hs2 hx
  refine C1 (A3 (C3 (A3 (A2 ?_))))
  refine A5 rfl ?_
  refine A1 rfl (I8 rfl F5 E8 (A0 rfl) (A0 rfl) hx (by first | omega | (simp only [D3, B0, szR] at *; omega))) ?_
  refine A1 rfl (H0 rfl (A0 rfl) K5 E8) ?_
  refine I2 rfl rfl rfl rfl Tryz.zeroValue141 rfl ?_
  intro b4
  refine B1 rfl ?_
  refine G9 0 rfl rfl rfl (A0 rfl) (A0 rfl) (I7 _) rfl E8 rfl ?_
  refine A4 (A3 (A3 ?_))
  refine H7 (by kernel_rfl) (by kernel_rfl) rfl ?_
  refine B3 rfl rfl (L5 0 rfl (A0 rfl) rfl K5 E8 rfl) ?_
  refine B3 rfl rfl (D8 rfl Tryz.call137 rfl (rec_spec _) (A8 (A0 rfl) C8)) ?_
  refine B3 rfl rfl (D8 rfl Tryz.call136 rfl (Af4 _ (by first | assumption | omega)) (A8 (A0 rfl) C8)) ?_
  refine B3 rfl rfl (J3 rfl (A0 rfl)) ?_
  refine B3 rfl rfl (C4 rfl (A0 rfl)) ?_
  refine D7 rfl (G8 rfl rfl rfl) (fun hc => B5 1 rfl E1 rfl B9 (A0 rfl) rfl) ?_
  refine D7 rfl (G8 rfl rfl rfl) (fun hc => B2 0 rfl (A9 rfl hc) rfl D1 rfl) ?_
  refine D7 rfl (G8 rfl rfl rfl) (fun hc => B5 0 rfl E3 rfl B9 (A0 rfl) rfl) ?_
  refine D7 rfl (G8 rfl rfl rfl) (fun hc => B2 1 rfl (A9 rfl hc) rfl D1 rfl) ?_
  refine D7 rfl (G8 rfl rfl rfl) (fun hc => S4 rfl (A9 rfl hc) (A9 rfl hc)) ?_
  refine B3 rfl rfl (P4 rfl (A0 rfl) (F6 rfl)) ?_
  refine B3 rfl rfl (C4 rfl (A0 rfl)) ?_
  refine D7 rfl (G8 rfl rfl rfl) (fun hc => C4 rfl (A0 rfl)) ?_
  refine D7 rfl (G8 rfl rfl rfl) (fun hc => S4 rfl (A9 rfl hc) B4) ?_
  refine D7 rfl (G8 rfl rfl rfl) (fun hc => C4 rfl (A9 rfl hc)) ?_
  refine D7 rfl (D9 rfl rfl rfl) (fun hc => B5 0 rfl E1 rfl B9 (A0 rfl) rfl) ?_
  refine D7 rfl (D9 rfl rfl rfl) (fun hc => B2 0 rfl (A9 rfl hc) rfl D1 rfl) ?_
  refine D7 rfl (D9 rfl rfl rfl) (fun hc => B5 2 rfl E3 rfl M9 (A0 rfl) rfl) ?_
  refine D7 rfl (D9 rfl rfl rfl) (fun hc => B2 1 rfl (A9 rfl hc) rfl P9 rfl) ?_
  refine D7 rfl (D9 rfl rfl rfl) (fun hc => C4 rfl (A0 rfl)) ?_
  refine D7 rfl (D9 rfl rfl rfl) (fun hc => O8 rfl (A9 rfl hc) B4 (by first | omega | ((try simp only [D3, B0, szR] at *); omega) | (have hc2 := hc; simp only [P3, beq_iff_eq, bne_iff_ne, A6, F8] at hc2; omega))) ?_
  refine D7 rfl (D9 rfl rfl rfl) (fun hc => I8 rfl F5 E8 (A9 rfl hc) (A9 rfl hc) hy (by first | omega | ((try simp only [D3, B0, szR] at *); omega) | (have hc2 := hc; simp only [P3, beq_iff_eq, bne_iff_ne, A6, F8] at hc2; omega))) ?_
  refine D7 rfl (D9 rfl rfl rfl) (fun hc => Q8 rfl E1 rfl B9 (A9 rfl hc) rfl) ?_
  refine D7 rfl (D9 rfl rfl rfl) (fun hc => K1 rfl (A9 rfl hc) D1 rfl) ?_
  refine D7 rfl (D9 rfl rfl rfl) (fun hc => S3 rfl (A9 rfl hc) (A9 rfl hc)) ?_
  refine D7 rfl (G8 rfl rfl rfl) (fun hc => I1 rfl (A9 rfl hc) (O2 rfl hc)) ?_
  refine B3 rfl rfl (P4 rfl (A0 rfl) (F6 rfl)) ?_
  refine O4 ?_
  refine C0 (A0 rfl) ?_ ?_
  ·intro h39
   have hfin : areHeld s = false := by (unfold areHeld; rw [V1 hlt (by rw [p8 hx hy, h39]; rfl)]; rfl)
   refine A3 (A2 ?_)
   refine A1 rfl (A7 rfl E2) ?_
   refine A4 ?_
   refine B8 ?_
   exact E4 rfl (B7 rfl (by first | exact congrArg AV.bool hfin.symm | exact congrArg AV.bool (by unfold areHeld; rw [hall]; rfl)))
  intro h39
  have hgr : goodRec (hRec h) = true := by (simp only [Bool.or_eq_false_iff, Bool.not_eq_false'] at h39; exact h39.1.1)
  have hwa := AM7 hgr
  have hwl : h.Writes.length ≤ 4611686018427387903 := by omega
  have hpre : ∀ g ∈ s.Held.take i, adj wLess g.Writes = true ∧ g.Writes.length ≤ 4611686018427387903 := fun g hm => by (obtain ⟨j, hj⟩ := List.getElem?_of_mem hm; have hjl := (List.getElem?_eq_some_iff.1 hj).1; rw [F8] at hjl; rw [List.getElem?_take_of_lt (by omega)] at hj; have k1 := p7 hs2 hj; exact ⟨AM7 (AK2 hj (hinv.2 j (by omega))).1, by omega⟩)
  refine C1 (A3 (A3 (A2 ?_)))
  refine A1 rfl (B5 2 rfl E3 rfl M9 (A0 rfl) rfl) ?_
  refine A1 rfl (B2 1 rfl (A0 rfl) rfl P9 rfl) ?_
  refine A5 rfl ?_
  refine A1 rfl (AU6 rfl F5 E8 (A0 rfl) (A0 rfl) (by first | omega | (simp only [D3, B0, szR] at *; omega)) (by first | omega | (simp only [D3, B0, szR] at *; omega))) ?_
  refine A1 rfl (w_clo rfl rfl (A8 (A0 rfl) C8)) ?_
  refine A1 rfl (Z1 rfl Tryz.call138 rfl (AA8 (s.Held.take i) (fun g => adj wLess g.Writes = true ∧ g.Writes.length ≤ 4611686018427387903) (fun g => clash h g) hpre) (C2 _) (M5 (evb (A0 rfl)) (M5 (AB7 (evb_clo1 0 (A0 rfl) rfl) (AL1 Tryz.call139 (fun g hg => AZ3 _ g (by first | assumption | omega) (by assumption) hg))) T4))) ?_
  refine A4 ?_
  refine C0 (A0 rfl) ?_ ?_
  ·intro h45
   have hfin : areHeld s = false := by (unfold areHeld; rw [V1 hlt (by rw [p8 hx hy, h45]; simp)]; rfl)
   refine A3 (A2 ?_)
   refine A1 rfl (A7 rfl E2) ?_
   refine A4 ?_
   refine B8 ?_
   exact E4 rfl (B7 rfl (by first | exact congrArg AV.bool hfin.symm | exact congrArg AV.bool (by unfold areHeld; rw [hall]; rfl)))
  intro h45
  refine C1 (A3 (A2 ?_))
  refine A1 rfl (B5 4 rfl E1 rfl J6 (A0 rfl) rfl) ?_
  refine A1 rfl (B2 0 rfl (A0 rfl) rfl K6 rfl) ?_
  refine A1 rfl (w_clo rfl rfl (A8 (A0 rfl) (A8 (A0 rfl) C8))) ?_
  refine A1 rfl (Z1 rfl Tryz.call141 rfl (Y4 _ _ _ (by first | (intros; trivial) | assumption | (intros; first | trivial | (simp_all; done)))) (C2 _) (M5 (evb (A0 rfl)) (M5 (AB7 (Ab3 0 1 (A0 rfl) rfl rfl) (AL1 Tryz.call142 (fun w (_ : True) => AZ4 _ _ w (by assumption) (by first | assumption | omega)))) T4))) ?_
  refine A4 ?_
  refine C0 (A0 rfl) ?_ ?_
  ·intro h49
   have hfin : areHeld s = false := by (unfold areHeld; rw [V1 hlt (by rw [p8 hx hy, h49]; simp)]; rfl)
   refine A3 (A2 ?_)
   refine A1 rfl (A7 rfl E2) ?_
   refine A4 ?_
   refine B8 ?_
   exact E4 rfl (B7 rfl (by first | exact congrArg AV.bool hfin.symm | exact congrArg AV.bool (by unfold areHeld; rw [hall]; rfl)))
  intro h49
  refine C1 (A2 ?_)
  refine A1 rfl (E9 rfl (A0 rfl) B4 (by first | omega | (simp only [D3, B0, szR] at *; omega))) ?_
  refine A5 rfl ?_
  refine A4 ?_
  refine H6 i (i + 1) ?_ ?_ (T3 1 ⟨rfl, rfl, rfl, rfl, trivial⟩)
  ·exact ⟨by omega, fun j hj => if hji : j < i then hinv.2 j hji else (by have e : j = i := (by omega); subst e; rw [p8 hx hy, h39, h45, h49]; rfl)⟩
  omega
 intro h9
 have k9 := of_decide_eq_false h9; try simp only [A6] at k9
 have hge : s.Held.length ≤ i := by omega
 have hall : allB s.Held.length (heldAt s) = true := e8.2 fun j hj => hinv.2 j (by omega)
 refine F1 ?_
 refine A3 (A2 ?_)
 refine A1 rfl (L5 0 rfl (A0 rfl) rfl N3 I0 rfl) ?_
 refine A1 rfl (B5 2 rfl E3 rfl M9 (A0 rfl) rfl) ?_
 refine A1 rfl (B2 0 rfl (A0 rfl) rfl P9 rfl) ?_
 refine A1 rfl (D8 rfl Tryz.call143 rfl (Aw3 _ _ (by assumption) (by first | assumption | omega) (by first | assumption | omega)) (A8 (A0 rfl) (A8 (A0 rfl) C8))) ?_
 refine B1 rfl ?_
 refine A4 ?_
 refine B8 ?_
 exact E4 rfl (B7 rfl (by first | exact congrArg AV.bool hfin.symm | exact congrArg AV.bool (by unfold areHeld; rw [hall]; rfl)))
theorem AT6 (h : THeld) (n : Int) : FSpec Tryz.prog 145 [AV.agg h.cs, AV.int n] (AV.int (hCmp n h)) := by
 refine D0 Tryz.func145 rfl Tryz.ntmps145 rfl ?_
 refine A3 (A2 ?_)
 refine I6 rfl rfl rfl rfl (A0 rfl) ?_
 intro b2
 refine A1 rfl (A7 rfl B4) ?_
 refine A4 (A3 (A2 ?_))
 refine A1 rfl (B5 0 rfl E1 rfl B9 (A0 rfl) rfl) ?_
 refine A1 rfl (B2 0 rfl (A0 rfl) rfl D1 rfl) ?_
 refine A5 rfl ?_
 refine A1 rfl (D8 rfl Tryz.call104 rfl (z8 _ _) (A8 (A0 rfl) (A8 (A0 rfl) C8))) ?_
 refine B1 rfl ?_
 refine A4 ?_
 refine B8 ?_
 exact E4 rfl (B7 rfl (by first | rfl | (refine congrArg AV.bool ?_; simp_all; done)))
theorem Ag1 (f : Int) (c t : List (List AV)) (l : List THeld) (n : Int) (hs : l.length ≤ 1048576) : FSpec Tryz.prog 94 [AV.agg [AV.int f, AV.list 2 c, AV.list 5 (l.map THeld.cs), AV.list 3 t], AV.int n] (AV.tup [AV.int (hPos l n), AV.bool (hHas l n)]) := by
 refine D0 Tryz.func94 rfl Tryz.ntmps94 rfl ?_
 refine A3 (A2 ?_)
 refine I6 rfl rfl rfl rfl (A0 rfl) ?_
 intro b2
 refine A1 rfl (A7 rfl B4) ?_
 refine A1 rfl (A7 rfl E2) ?_
 refine A4 (A3 (A2 ?_))
 refine A1 rfl (B5 2 rfl E3 rfl M9 (A0 rfl) rfl) ?_
 refine A1 rfl (B2 0 rfl (A0 rfl) rfl P9 rfl) ?_
 refine A5 rfl ?_
 refine A1 rfl (D8 rfl Tryz.call144 rfl (AB0 _ _ _ (by first | (intros; trivial) | assumption | (intros; first | trivial | (simp_all; done))) _ (by omega)) (A8 (A0 rfl) (A8 (A0 rfl) (A8 (AR3 Tryz.call145 (fun h n (_ : True) => AT6 h n)) C8)))) ?_
 refine A1 rfl (K3 rfl (A0 rfl) rfl) ?_
 refine A1 rfl (K3 rfl (A0 rfl) rfl) ?_
 refine B1 rfl ?_
 refine B1 rfl ?_
 refine A4 ?_
 refine B8 ?_
 exact g9 rfl (by decide) (J2 (B7 rfl (by first | rfl | (refine congrArg AV.bool ?_; simp_all; done))) (J2 (B7 rfl (by first | rfl | (refine congrArg AV.bool ?_; simp_all; done))) R6))
theorem AZ5 (s : TState) (n : Int) (hs : s.Held.length ≤ 1048576) : FSpec Tryz.prog 94 [AV.agg s.cs, AV.int n] (AV.tup [AV.int (hPos s.Held n), AV.bool (hHas s.Held n)]) := Ag1 _ _ _ s.Held n hs
theorem AT7 (s : TState) (hs : s.size ≤ 1048576) : FSpec Tryz.prog 50 [AV.agg s.cs] (AV.bool (goodState s)) := by
 obtain ⟨hs1, hs2, hs3, hs4, hs5⟩ := c7 hs
 refine D0 Tryz.func50 rfl Tryz.ntmps50 rfl ?_
 refine A3 (A2 ?_)
 refine I6 rfl rfl rfl rfl (A0 rfl) ?_
 intro b1
 refine A1 rfl (A7 rfl E2) ?_
 refine A4 (A3 (A3 (A2 ?_)))
 refine A1 rfl (B5 0 rfl E3 rfl B9 (A0 rfl) rfl) ?_
 refine A1 rfl (B2 0 rfl (A0 rfl) rfl D1 rfl) ?_
 refine A1 rfl (D8 rfl Tryz.call52 rfl (AJ7 _) (A8 (A0 rfl) C8)) ?_
 refine A1 rfl (J3 rfl (A0 rfl)) ?_
 refine A5 rfl ?_
 refine I3 rfl (fun hc => B5 1 rfl E3 rfl L6 (A0 rfl) rfl) ?_
 refine I3 rfl (fun hc => B2 0 rfl (A9 rfl hc) rfl O3 rfl) ?_
 refine I3 rfl (fun hc => D8 rfl Tryz.call77 rfl (AT0 _ (by first | assumption | omega)) (A8 (A9 rfl hc) C8)) ?_
 refine I3 rfl (fun hc => J3 rfl (A9 rfl hc)) ?_
 refine A1 rfl (P4 rfl (A0 rfl) (F6 rfl)) ?_
 refine A5 rfl ?_
 refine I3 rfl (fun hc => L5 0 rfl (A0 rfl) rfl N3 I0 rfl) ?_
 refine I3 rfl (fun hc => D8 rfl Tryz.call91 rfl (Ag0 s (by have h9 := hc; simp at h9; exact h9.2) hs) (A8 (A9 rfl hc) C8)) ?_
 refine I3 rfl (fun hc => J3 rfl (A9 rfl hc)) ?_
 refine A1 rfl (P4 rfl (A0 rfl) (F6 rfl)) ?_
 refine A5 rfl ?_
 refine I3 rfl (fun hc => B5 3 rfl E3 rfl Q9 (A0 rfl) rfl) ?_
 refine I3 rfl (fun hc => B2 0 rfl (A9 rfl hc) rfl V2 rfl) ?_
 refine I3 rfl (fun hc => E7 rfl J8 (A9 rfl hc)) ?_
 refine I3 rfl (fun hc => S4 rfl (A9 rfl hc) B4) ?_
 refine A1 rfl (P4 rfl (A0 rfl) (F6 rfl)) ?_
 refine A4 ?_
 refine C0 (A0 rfl) ?_ ?_
 ·intro h30
  have hfin : goodState s = false := by (unfold goodState; simp only [Bool.or_eq_true, Bool.not_eq_true', decide_eq_true_eq, A6] at h30; rcases h30 with ((h | h) | h) | h; (rw [h]; rfl); (rw [h]; simp); (rw [h]; simp); (rw [decide_eq_false (show ¬ s.Told.length ≤ 60 by omega)]; simp))
  refine A3 (A2 ?_)
  refine A1 rfl (A7 rfl E2) ?_
  refine A4 ?_
  refine B8 ?_
  exact E4 rfl (B7 rfl (by exact congrArg AV.bool hfin.symm))
 intro h30
 simp only [Bool.or_eq_false_iff, Bool.not_eq_false', decide_eq_false_iff_not, A6] at h30
 obtain ⟨⟨⟨q1, q2⟩, q3⟩, q4⟩ := h30
 have hco := V9 q2
 have hsrt := Af8 q3
 have hgs : goodState s = ((s.Cells.all fun c => decide (lastTime s.Cells c.Key ≤ s.Floor)) && allB s.Told.length (toldAt s)) := by (unfold goodState; rw [q1, q2, q3, decide_eq_true (show s.Told.length ≤ 60 by omega)]; simp)
 refine C1 (A3 (A3 (A2 ?_)))
 refine A1 rfl (B5 1 rfl E3 rfl L6 (A0 rfl) rfl) ?_
 refine A1 rfl (B2 0 rfl (A0 rfl) rfl O3 rfl) ?_
 refine A1 rfl (E7 rfl F3 (A0 rfl)) ?_
 refine A1 rfl (C4 rfl B4) ?_
 refine A4 (C3 ?_)
 refine G4 [(1, _), (32, _), (33, _)] _ (fun (i : Nat) => i ≤ s.Cells.length ∧ (s.Cells.all fun c => decide (lastTime s.Cells c.Key ≤ s.Floor)) = ((s.Cells.drop i).all fun c => decide (lastTime s.Cells c.Key ≤ s.Floor))) (fun (i : Nat) => []) (fun (i : Nat) => [(34, AV.int i)]) (fun (i : Nat) => s.Cells.length - i) (0) ?_ (G6 ⟨rfl, rfl, rfl, rfl, trivial⟩) ?_
 ·exact ⟨Nat.zero_le _, rfl⟩
 intro i hinv
 refine A3 (A2 ?_)
 refine A1 rfl (F7 rfl (A0 rfl) (A0 rfl)) ?_
 refine A4 (A3 ?_)
 refine C0 (A0 rfl) ?_ ?_
 ·intro h35
  have k35 := of_decide_eq_true h35; try simp only [A6] at k35
  have hlt : i < s.Cells.length := by omega
  obtain ⟨c, hx⟩ := get_some hlt
  refine C1 (A3 (C3 (A3 (A2 ?_))))
  refine A1 rfl (I8 rfl F3 F2 (A0 rfl) (A0 rfl) hx (by first | omega | (simp only [D3, B0, szR] at *; omega))) ?_
  refine A1 rfl (H0 rfl (A0 rfl) O0 F2) ?_
  refine I2 rfl rfl rfl rfl Tryz.zeroValue125 rfl ?_
  intro b4
  refine G9 0 rfl rfl rfl (A0 rfl) (A0 rfl) (I7 _) rfl F2 rfl ?_
  refine A4 (A3 ?_)
  refine H7 (by kernel_rfl) (by kernel_rfl) rfl ?_
  refine B3 rfl rfl (B5 1 rfl E3 rfl L6 (A0 rfl) rfl) ?_
  refine B3 rfl rfl (B2 1 rfl (A0 rfl) rfl O3 rfl) ?_
  refine B3 rfl rfl (B5 0 rfl F9 rfl D2 (A0 rfl) rfl) ?_
  refine B3 rfl rfl (B2 0 rfl (A0 rfl) rfl E6 rfl) ?_
  refine B3 rfl rfl (D8 rfl Tryz.call92 rfl (AE5 _ _ (by first | assumption | exact V9 (by assumption)) (by first | assumption | omega)) (A8 (A0 rfl) (A8 (A0 rfl) C8))) ?_
  refine B3 rfl rfl (B5 0 rfl E3 rfl B9 (A0 rfl) rfl) ?_
  refine B3 rfl rfl (B2 1 rfl (A0 rfl) rfl D1 rfl) ?_
  refine B3 rfl rfl (S4 rfl (A0 rfl) (A0 rfl)) ?_
  refine O4 ?_
  refine C0 (A0 rfl) ?_ ?_
  ·intro h45
   have k45 := of_decide_eq_true h45; try simp only [A6] at k45
   have hfin : goodState s = false := by (rw [hgs, hinv.2, drop_some hx, List.all_cons, decide_eq_false (show ¬ lastTime s.Cells c.Key ≤ s.Floor by omega)]; rfl)
   refine A3 (A2 ?_)
   refine A1 rfl (A7 rfl E2) ?_
   refine A4 ?_
   refine B8 ?_
   exact E4 rfl (B7 rfl (by exact congrArg AV.bool hfin.symm))
  intro h45
  have k45 := of_decide_eq_false h45; try simp only [A6] at k45
  refine C1 (A2 ?_)
  refine A1 rfl (E9 rfl (A0 rfl) B4 (by first | omega | (simp only [D3, B0, szR] at *; omega))) ?_
  refine A5 rfl ?_
  refine A4 ?_
  refine H6 i (i + 1) ?_ ?_ (T3 1 ⟨rfl, rfl, rfl, rfl, trivial⟩)
  ·exact ⟨by omega, by rw [hinv.2, drop_some hx, List.all_cons, decide_eq_true (show lastTime s.Cells c.Key ≤ s.Floor by omega)]; rfl⟩
  omega
 intro h35
 have k35 := of_decide_eq_false h35; try simp only [A6] at k35
 have hge : s.Cells.length ≤ i := by omega
 have hgs2 : goodState s = allB s.Told.length (toldAt s) := by (rw [hgs, hinv.2, List.drop_eq_nil_of_le hge]; rfl)
 refine F1 ?_
 refine A3 (A3 (A2 ?_))
 refine A1 rfl (B5 3 rfl E3 rfl Q9 (A0 rfl) rfl) ?_
 refine A1 rfl (B2 0 rfl (A0 rfl) rfl V2 rfl) ?_
 refine A1 rfl (E7 rfl J8 (A0 rfl)) ?_
 refine A1 rfl (C4 rfl B4) ?_
 refine A4 (C3 ?_)
 refine G4 [(1, _), (48, _), (49, _)] _ (fun (q : Nat) => q ≤ s.Told.length ∧ ∀ j, j < q → toldAt s j = true) (fun (q : Nat) => []) (fun (q : Nat) => [(50, AV.int q)]) (fun (q : Nat) => s.Told.length - q) (0) ?_ (G6 ⟨rfl, rfl, rfl, rfl, trivial⟩) ?_
 ·exact ⟨Nat.zero_le _, fun j hj => by omega⟩
 intro q hinv
 refine A3 (A2 ?_)
 refine A1 rfl (F7 rfl (A0 rfl) (A0 rfl)) ?_
 refine A4 (A3 ?_)
 refine C0 (A0 rfl) ?_ ?_
 ·intro h51
  have k51 := of_decide_eq_true h51; try simp only [A6] at k51
  have hlt : q < s.Told.length := by omega
  obtain ⟨t, hx⟩ := get_some hlt
  obtain ⟨y, hy⟩ := get_some (show q - 1 < s.Told.length by omega)
  refine C1 (A3 (C3 (A3 (A2 ?_))))
  refine A5 rfl ?_
  refine A1 rfl (I8 rfl J8 L3 (A0 rfl) (A0 rfl) hx (by first | omega | (simp only [D3, B0, szR] at *; omega))) ?_
  refine A1 rfl (H0 rfl (A0 rfl) Z2 L3) ?_
  refine I2 rfl rfl rfl rfl Tryz.zeroValue144 rfl ?_
  intro b6
  refine B1 rfl ?_
  refine G9 0 rfl rfl rfl (A0 rfl) (A0 rfl) (I7 _) rfl L3 rfl ?_
  refine A4 (A3 (A2 ?_))
  refine A1 rfl (B5 1 rfl H8 rfl G3 (A0 rfl) rfl) ?_
  refine A1 rfl (B2 0 rfl (A0 rfl) rfl I9 rfl) ?_
  refine A5 rfl ?_
  refine D4 rfl (fun hc => B5 2 rfl H8 rfl B9 (A0 rfl) rfl) ?_
  refine D4 rfl (fun hc => B2 0 rfl (A9 rfl hc) rfl D1 rfl) ?_
  refine D4 rfl (fun hc => B5 0 rfl E3 rfl B9 (A0 rfl) rfl) ?_
  refine D4 rfl (fun hc => B2 1 rfl (A9 rfl hc) rfl D1 rfl) ?_
  refine D4 rfl (fun hc => D8 rfl Tryz.call82 rfl (W9 _ _ _) (A8 (A9 rfl hc) (A8 B4 (A8 (A9 rfl hc) C8)))) ?_
  refine A1 rfl (I1 rfl (A0 rfl) (F6 rfl)) ?_
  refine A5 rfl ?_
  refine I3 rfl (fun hc => B5 1 rfl H8 rfl G3 (A0 rfl) rfl) ?_
  refine I3 rfl (fun hc => B2 0 rfl (A9 rfl hc) rfl I9 rfl) ?_
  refine I3 rfl (fun hc => J3 rfl (A9 rfl hc)) ?_
  refine I3 rfl (fun hc => C4 rfl (A9 rfl hc)) ?_
  refine H9 rfl rfl (D9 rfl rfl rfl) (fun hc => B5 2 rfl H8 rfl B9 (A0 rfl) rfl) ?_
  refine H9 rfl rfl (D9 rfl rfl rfl) (fun hc => B2 0 rfl (A9 rfl hc) rfl D1 rfl) ?_
  refine H9 rfl rfl (D9 rfl rfl rfl) (fun hc => R4 rfl (A9 rfl hc) B4) ?_
  refine I3 rfl (fun hc => I1 rfl (A9 rfl hc) (O2 rfl hc)) ?_
  refine A1 rfl (P4 rfl (A0 rfl) (F6 rfl)) ?_
  refine B1 rfl ?_
  refine A4 (A3 (A3 ?_))
  refine H7 (by kernel_rfl) (by kernel_rfl) rfl ?_
  refine B3 rfl rfl (B5 0 rfl H8 rfl B9 (A0 rfl) rfl) ?_
  refine B3 rfl rfl (B2 0 rfl (A0 rfl) rfl D1 rfl) ?_
  refine B3 rfl rfl (D8 rfl Tryz.call93 rfl (o6 _) (A8 (A0 rfl) C8)) ?_
  refine B3 rfl rfl (J3 rfl (A0 rfl)) ?_
  refine B3 rfl rfl (C4 rfl (A0 rfl)) ?_
  refine D7 rfl (G8 rfl rfl rfl) (fun hc => C4 rfl (A0 rfl)) ?_
  refine D7 rfl (G8 rfl rfl rfl) (fun hc => J3 rfl (A9 rfl hc)) ?_
  refine B3 rfl rfl (P4 rfl (A0 rfl) (F6 rfl)) ?_
  refine B3 rfl rfl (C4 rfl (A0 rfl)) ?_
  refine D7 rfl (G8 rfl rfl rfl) (fun hc => C4 rfl (A0 rfl)) ?_
  refine D7 rfl (G8 rfl rfl rfl) (fun hc => S4 rfl (A9 rfl hc) B4) ?_
  refine D7 rfl (G8 rfl rfl rfl) (fun hc => C4 rfl (A9 rfl hc)) ?_
  refine D7 rfl (D9 rfl rfl rfl) (fun hc => B5 0 rfl H8 rfl B9 (A0 rfl) rfl) ?_
  refine D7 rfl (D9 rfl rfl rfl) (fun hc => B2 0 rfl (A9 rfl hc) rfl D1 rfl) ?_
  refine D7 rfl (D9 rfl rfl rfl) (fun hc => B5 3 rfl E3 rfl Q9 (A0 rfl) rfl) ?_
  refine D7 rfl (D9 rfl rfl rfl) (fun hc => B2 1 rfl (A9 rfl hc) rfl V2 rfl) ?_
  refine D7 rfl (D9 rfl rfl rfl) (fun hc => C4 rfl (A0 rfl)) ?_
  refine D7 rfl (D9 rfl rfl rfl) (fun hc => O8 rfl (A9 rfl hc) B4 (by first | omega | ((try simp only [D3, B0, szR] at *); omega) | (have hc2 := hc; simp only [P3, beq_iff_eq, bne_iff_ne, A6, F8] at hc2; omega))) ?_
  refine D7 rfl (D9 rfl rfl rfl) (fun hc => I8 rfl J8 L3 (A9 rfl hc) (A9 rfl hc) hy (by first | omega | ((try simp only [D3, B0, szR] at *); omega) | (have hc2 := hc; simp only [P3, beq_iff_eq, bne_iff_ne, A6, F8] at hc2; omega))) ?_
  refine D7 rfl (D9 rfl rfl rfl) (fun hc => Q8 rfl H8 rfl B9 (A9 rfl hc) rfl) ?_
  refine D7 rfl (D9 rfl rfl rfl) (fun hc => K1 rfl (A9 rfl hc) D1 rfl) ?_
  refine D7 rfl (D9 rfl rfl rfl) (fun hc => S3 rfl (A9 rfl hc) (A9 rfl hc)) ?_
  refine D7 rfl (G8 rfl rfl rfl) (fun hc => I1 rfl (A9 rfl hc) (O2 rfl hc)) ?_
  refine B3 rfl rfl (P4 rfl (A0 rfl) (F6 rfl)) ?_
  refine O4 ?_
  refine C0 (A0 rfl) ?_ ?_
  ·intro h97
   have hfin : goodState s = false := by (rw [hgs2]; exact V1 hlt (by rw [y6 hx hy, h97]; rfl))
   refine A3 (A2 ?_)
   refine A1 rfl (A7 rfl E2) ?_
   refine A4 ?_
   refine B8 ?_
   exact E4 rfl (B7 rfl (by exact congrArg AV.bool hfin.symm))
  intro h97
  refine C1 (A3 (A2 ?_))
  refine A1 rfl (L5 1 rfl (A0 rfl) rfl N3 I0 rfl) ?_
  refine A1 rfl (B5 0 rfl H8 rfl B9 (A0 rfl) rfl) ?_
  refine A1 rfl (B2 0 rfl (A0 rfl) rfl D1 rfl) ?_
  refine A1 rfl (D8 rfl Tryz.call94 rfl (AZ5 _ _ (by first | assumption | omega)) (A8 (A0 rfl) (A8 (A0 rfl) C8))) ?_
  refine A5 rfl ?_
  refine A1 rfl (K3 rfl (A0 rfl) rfl) ?_
  refine A1 rfl (K3 rfl (A0 rfl) rfl) ?_
  refine B1 rfl ?_
  refine B1 rfl ?_
  refine A4 (A3 (A2 ?_))
  refine A5 rfl ?_
  refine A4 ?_
  refine C0 (A0 rfl) ?_ ?_
  ·intro h105
   have hfin : goodState s = false := by (rw [hgs2]; exact V1 hlt (by rw [y6 hx hy, ← Ao3 hsrt, h105]; simp))
   refine A3 (A2 ?_)
   refine A1 rfl (A7 rfl E2) ?_
   refine A4 ?_
   refine B8 ?_
   exact E4 rfl (B7 rfl (by exact congrArg AV.bool hfin.symm))
  intro h105
  refine C1 (A2 ?_)
  refine A1 rfl (E9 rfl (A0 rfl) B4 (by first | omega | (simp only [D3, B0, szR] at *; omega))) ?_
  refine A5 rfl ?_
  refine A4 ?_
  refine H6 q (q + 1) ?_ ?_ (T3 1 ⟨rfl, rfl, rfl, rfl, trivial⟩)
  ·exact ⟨by omega, fun j hj => if hji : j < q then hinv.2 j hji else (by have e : j = q := (by omega); subst e; rw [y6 hx hy, h97, ← Ao3 hsrt, h105]; rfl)⟩
  omega
 intro h51
 have k51 := of_decide_eq_false h51; try simp only [A6] at k51
 have hge : s.Told.length ≤ q := by omega
 have hfin : goodState s = true := by (rw [hgs2]; exact e8.2 fun j hj => hinv.2 j (by omega))
 refine F1 ?_
 refine A3 (A2 ?_)
 refine A1 rfl (A7 rfl E2) ?_
 refine A4 ?_
 refine B8 ?_
 exact E4 rfl (B7 rfl (by exact congrArg AV.bool hfin.symm))
end Go.Proofs.YtkegepoihkhihaaGreat

namespace Go.Proofs.YtkegepoihkhihaaGreat
open Go Go.AV Go.M
attribute [local irreducible] OpW OpA OpS AWP FSpec ESpec GSpec OpE RetOk RetOkG RvDen Le Ev GuardIs
theorem T7 (k : Int) (h : k ≤ 4611686018427387904) : FSpec Tryz.prog 61 [AV.int k] (AV.str (markText k)) := by
 refine D0 Tryz.func61 rfl Tryz.ntmps61 rfl ?_
 refine A3 (A2 ?_)
 refine A1 rfl (A7 rfl (i4 (l := []) rfl)) ?_
 refine A4 (A3 (A3 (A2 ?_)))
 refine A5 rfl ?_
 refine A1 rfl (S3 rfl (A0 rfl) B4) ?_
 refine A4 ?_
 refine C0 (A0 rfl) ?_ ?_
 ·intro h5
  have k5 := of_decide_eq_true h5; try simp only [A6] at k5
  have he : markText k = [109, 48] := by unfold markText; rw [if_pos k5]
  rw [he]
  refine A3 (A2 ?_)
  refine A1 rfl (A7 rfl (i4 (l := [109, 48]) rfl)) ?_
  refine A4 ?_
  refine B8 ?_
  exact E4 rfl (B7 rfl (by first | rfl | exact congrArg AV.str (by rw [hz]; rfl)))
 intro h5
 have k5 := of_decide_eq_false h5; try simp only [A6] at k5
 obtain ⟨m, rfl⟩ : ∃ m : Nat, k = (m : Int) := ⟨k.toNat, by omega⟩
 have he : markText (m : Int) = 109 :: digs m [] := by unfold markText; rw [if_neg k5]; rfl
 rw [he]
 refine C1 (A3 (A2 ?_))
 refine A1 rfl (A7 rfl (i4 (l := []) rfl)) ?_
 refine A4 (A3 (C3 ?_))
 refine J7 [(2, _)] _ (fun (j : Nat) (out : Str) => digs m [] = digs j out ∧ out.length + j ≤ m) (fun (j : Nat) (out : Str) => []) (fun (j : Nat) (out : Str) => [(0, AV.int j), (3, AV.str out)]) (fun (j : Nat) (out : Str) => j) (m) ([]) ?_ (G6 ⟨rfl, rfl, rfl, trivial⟩) ?_
 ·exact ⟨rfl, by simp⟩
 intro j out hinv
 refine A3 (A3 (A2 ?_))
 refine A5 rfl ?_
 refine A1 rfl (S4 rfl (A0 rfl) B4) ?_
 refine A4 ?_
 refine C0 (A0 rfl) ?_ ?_
 ·intro h7
  have k7 := of_decide_eq_true h7; try simp only [A6] at k7
  refine C1 (C3 (A3 (A2 ?_)))
  refine A5 rfl ?_
  refine A1 rfl (AH9 rfl (A0 rfl) B4 (by decide)) ?_
  refine A1 rfl (E9 rfl B4 (A0 rfl) (by rw [tmod10]; omega)) ?_
  refine A1 rfl (s9 rfl (by kernel_rfl) Tryz.underlying5 (A0 rfl)) ?_
  rw [mk_byte]
  refine A1 rfl (W4 rfl Tryz.underlying59 Tryz.sizeOf5 Tryz.zeroValue5 rfl rfl rfl rfl (M8 (A0 rfl) (P0 _ _) S7) rfl rfl) ?_
  refine A1 rfl (w_convBS (l := [UInt8.ofNat (48 + j % 10)]) rfl Tryz.underlying59 Tryz.underlying5 J0 (A0 rfl)) ?_
  refine A5 rfl ?_
  refine A1 rfl (w_cat rfl (A0 rfl) (A0 rfl) (by first | omega | (simp only [I5, F8, List.length_drop, K0, X1]; omega))) ?_
  refine B1 rfl ?_
  refine A4 (A2 ?_)
  refine A5 rfl ?_
  refine A1 rfl (w_quo rfl (A0 rfl) B4 (by decide)) ?_
  rw [mk_quo (k := j) (by omega)]
  refine B1 rfl ?_
  refine A4 ?_
  refine l5 ?_
  refine J5 j out (j / 10) (UInt8.ofNat (48 + j % 10) :: out) ?_ ?_ (G6 ⟨rfl, rfl, rfl, trivial⟩)
  ·exact ⟨by rw [hinv.1, digs_pos (by omega)], by simp only [K0]; omega⟩
  omega
 intro h7
 have k7 := of_decide_eq_false h7; try simp only [A6] at k7
 have hz : digs m [] = out := by rw [hinv.1, Av8 (by omega)]
 refine F1 ?_
 refine A3 (A2 ?_)
 refine A5 rfl ?_
 refine A1 rfl (w_cat rfl (i4 (l := [109]) rfl) (A0 rfl) (by first | omega | (simp only [I5, F8, List.length_drop, K0, X1]; omega))) ?_
 refine B1 rfl ?_
 refine A4 ?_
 refine B8 ?_
 exact E4 rfl (B7 rfl (by first | rfl | exact congrArg AV.str (by rw [hz]; rfl)))
theorem AZ6 (l : List Str) (hs : sizeL (fun x => x.length) l ≤ 1048576) : GSpec Tryz.prog 134 [strs l] [] (fun _ : Value => True) (fun v => [.arr v 9 1 (l.map (fun x => [AV.str x]))]) (fun v => AV.is v) := by
 have hsl : l.length ≤ 1048576 := Nat.le_trans L4 hs
 refine K4 Tryz.func134 rfl Tryz.ntmps134 rfl ?_
 refine A3 (A2 ?_)
 refine A1 rfl (A7 rfl S0) ?_
 refine A4 (A3 (A2 ?_))
 refine A5 rfl ?_
 refine A1 rfl (E7 rfl D6 (A0 rfl)) ?_
 refine W1 (by' := 16) rfl rfl rfl rfl D6 Tryz.type9 rfl rfl rfl rfl rfl rfl (A0 rfl) (A0 rfl) (by simp only [A6]; omega) (by simp only [A6]; omega) ?_
 intro v7
 refine B1 rfl ?_
 refine A4 (A3 (A3 (A2 ?_)))
 refine A1 rfl (A7 rfl B4) ?_
 refine A4 (C3 ?_)
 refine G4 [(0, _), (2, _), (3, _)] _ (fun (i : Nat) => i ≤ l.length) (fun (i : Nat) => [.arr v7 9 1 ((l.take i).map (fun x => [AV.str x]) ++ List.replicate (l.length - i) [AV.str []])]) (fun (i : Nat) => [(4, AV.int i)]) (fun (i : Nat) => l.length - i) (0) ?_ (J9 (by simp only [A6]; rfl) ⟨rfl, rfl, rfl, rfl, trivial⟩) ?_
 ·exact Nat.zero_le _
 intro i hinv
 refine A3 (A3 (A2 ?_))
 refine A5 rfl ?_
 refine A5 rfl ?_
 refine A1 rfl (E7 rfl D6 (A0 rfl)) ?_
 refine A1 rfl (F7 rfl (A0 rfl) (A0 rfl)) ?_
 refine A4 ?_
 refine C0 (A0 rfl) ?_ ?_
 ·intro h11
  have k11 := of_decide_eq_true h11; try simp only [A6] at k11
  have hlt : i < l.length := by omega
  obtain ⟨x, hx⟩ := get_some hlt
  refine C1 (A3 (C3 (A2 ?_)))
  refine A5 rfl ?_
  refine A5 rfl ?_
  refine A5 rfl ?_
  refine A5 rfl ?_
  refine A1 rfl (N5 rfl D6 D2 (A0 rfl) (A0 rfl) (by omega) (by simp only [Int.toNat_natCast, List.getElem?_map, hx, Option.map_some]; try rfl)) ?_
  refine A1 rfl (K1 rfl (A0 rfl) E6 rfl) ?_
  refine A1 rfl (K9 0 rfl D6 D2 (A0 rfl) rfl (A0 rfl) (by omega) (by rw [Q0 hinv]; omega)) ?_
  refine R8 0 rfl rfl rfl (A0 rfl) (A0 rfl) (S5 _) rfl D2 rfl (by rw [Q0 hinv]; omega) ?_
  refine A4 (A2 ?_)
  refine A5 rfl ?_
  refine A1 rfl (E9 rfl (A0 rfl) B4 (by first | omega | (simp only [D3, B0, szR] at *; omega))) ?_
  refine B1 rfl ?_
  refine A4 ?_
  refine H6 i (i + 1) ?_ ?_ (J9 (by exact congrArg (fun z => [Own.arr v7 9 1 z]) (V4 hx)) ⟨rfl, rfl, rfl, rfl, trivial⟩)
  ·omega
  omega
 intro h11
 have k11 := of_decide_eq_false h11; try simp only [A6] at k11
 have hge : l.length ≤ i := by omega
 rw [V5 hge]
 refine F1 ?_
 refine A3 (A2 ?_)
 refine A5 rfl ?_
 refine B1 rfl ?_
 refine A4 ?_
 refine B8 ?_
 exact U7 [0] v7 (trivial) rfl (by rfl) (V6 rfl (B7 rfl (by first | rfl | (refine congrArg AV.bool ?_; simp_all; done))))
theorem AM8 (v : Value) (l : List Str) (k : Int) (h : 0 ≤ k ∧ k + 1 * l.length ≤ 4611686018427387904) : GSpec Tryz.prog 99 [AV.is v, AV.int k] [.arr v 9 1 (l.map (fun x => [AV.str x]))] (fun _ : Unit => True) (fun _ => [.arr v 9 1 ((marks markText 1 l.length k).map (fun x => [AV.str x]))]) (fun _ => AV.int (k + 1 * l.length)) := by
 refine K4 Tryz.func99 rfl Tryz.ntmps99 rfl ?_
 refine A3 (A2 ?_)
 refine A1 rfl (A7 rfl B4) ?_
 refine A4 (A3 (A3 (A2 ?_)))
 refine A1 rfl (A7 rfl B4) ?_
 refine A4 (C3 ?_)
 refine J7 [(0, _), (4, _)] _ (fun (i : Nat) (c : Int) => i ≤ l.length ∧ c = k + 1 * i) (fun (i : Nat) (c : Int) => [.arr v 9 1 ((marks markText 1 i k).map (fun x => [AV.str x]) ++ (l.drop i).map (fun x => [AV.str x]))]) (fun (i : Nat) (c : Int) => [(1, AV.int c), (5, AV.int i)]) (fun (i : Nat) (c : Int) => l.length - i) (0) (k) ?_ (J9 (by simp only [marks, List.map_nil, List.nil_append, List.drop_zero]; rfl) ⟨rfl, rfl, rfl, rfl, trivial⟩) ?_
 ·exact ⟨Nat.zero_le _, by simp⟩
 intro i c hinv
 refine A3 (A3 (A2 ?_))
 refine A5 rfl ?_
 refine A5 rfl ?_
 refine A1 rfl (V3 0 rfl D6 (A0 rfl) rfl) ?_
 refine A1 rfl (F7 rfl (A0 rfl) (A0 rfl)) ?_
 refine A4 ?_
 refine C0 (A0 rfl) ?_ ?_
 ·intro h9
  have k9 := of_decide_eq_true h9; try simp only [A6] at k9
  simp only [I5, A6, H2, List.length_drop] at k9
  have hlt : i < l.length := by omega
  obtain ⟨x, hx⟩ := get_some hlt
  rw [u4 hx]
  refine C1 (A3 (C3 (A3 (A2 ?_))))
  refine A5 rfl ?_
  refine A5 rfl ?_
  refine A5 rfl ?_
  refine A1 rfl (D8 rfl Tryz.call61 rfl (T7 _ (by omega)) (A8 (A0 rfl) C8)) ?_
  refine A1 rfl (K9 0 rfl D6 D2 (A0 rfl) rfl (A0 rfl) (by omega) (by simp only [I5, A6, H2, K0, List.length_drop]; omega)) ?_
  refine Ap2 0 rfl rfl rfl (A0 rfl) (A0 rfl) (S5 _) rfl D2 rfl (by simp [H2]) ?_
  refine A4 (A2 ?_)
  refine A5 rfl ?_
  refine A1 rfl (E9 rfl (A0 rfl) B4 (by first | omega | (simp only [D3, B0, szR] at *; omega))) ?_
  refine B1 rfl ?_
  refine A4 (A2 ?_)
  refine A5 rfl ?_
  refine A1 rfl (E9 rfl (A0 rfl) B4 (by first | omega | (simp only [D3, B0, szR] at *; omega))) ?_
  refine B1 rfl ?_
  refine A4 ?_
  refine J5 i c (i + 1) (c + 1) ?_ ?_ (J9 (by exact congrArg (fun z => [Own.arr v 9 1 z]) (m7 (by first | (rw [← hinv.2]; done) | (rw [← hinv.2]; rfl)))) ⟨rfl, rfl, rfl, rfl, trivial⟩)
  ·exact ⟨by omega, by omega⟩
  omega
 intro h9
 have k9 := of_decide_eq_false h9; try simp only [A6] at k9
 simp only [I5, A6, H2, List.length_drop] at k9
 have hge : i = l.length := by omega
 subst hge
 simp only [List.drop_length, List.map_nil, List.append_nil]
 refine F1 ?_
 refine A3 (A2 ?_)
 refine A5 rfl ?_
 refine B1 rfl ?_
 refine A4 ?_
 refine B8 ?_
 exact U7 [0] () (trivial) rfl (by rfl) (V6 rfl (B7 rfl (by exact congrArg AV.int (by omega))))
theorem Ag2 (l : List TWrite) (hs : sizeL TWrite.size l ≤ 1048576) : GSpec Tryz.prog 135 [AV.list 3 (l.map TWrite.cs)] [] (fun _ : Value => True) (fun v => [.arr v 101 3 (l.map TWrite.cs)]) (fun v => AV.is v) := by
 have hsl : l.length ≤ 1048576 := Nat.le_trans L4 hs
 refine K4 Tryz.func135 rfl Tryz.ntmps135 rfl ?_
 refine A3 (A2 ?_)
 refine A1 rfl (A7 rfl S0) ?_
 refine A4 (A3 (A2 ?_))
 refine A5 rfl ?_
 refine A1 rfl (E7 rfl P7 (A0 rfl)) ?_
 refine W1 (by' := 40) rfl rfl rfl rfl F0 Tryz.type101 rfl rfl rfl rfl rfl rfl (A0 rfl) (A0 rfl) (by simp only [A6]; omega) (by simp only [A6]; omega) ?_
 intro v7
 refine B1 rfl ?_
 refine A4 (A3 (A3 (A2 ?_)))
 refine A1 rfl (A7 rfl B4) ?_
 refine A4 (C3 ?_)
 refine G4 [(0, _), (2, _), (3, _)] _ (fun (i : Nat) => i ≤ l.length) (fun (i : Nat) => [.arr v7 101 3 ((l.take i).map TWrite.cs ++ List.replicate (l.length - i) [AV.str [], AV.str [], AV.bool false])]) (fun (i : Nat) => [(4, AV.int i)]) (fun (i : Nat) => l.length - i) (0) ?_ (J9 (by simp only [A6]; rfl) ⟨rfl, rfl, rfl, rfl, trivial⟩) ?_
 ·exact Nat.zero_le _
 intro i hinv
 refine A3 (A3 (A2 ?_))
 refine A5 rfl ?_
 refine A5 rfl ?_
 refine A1 rfl (E7 rfl P7 (A0 rfl)) ?_
 refine A1 rfl (F7 rfl (A0 rfl) (A0 rfl)) ?_
 refine A4 ?_
 refine C0 (A0 rfl) ?_ ?_
 ·intro h11
  have k11 := of_decide_eq_true h11; try simp only [A6] at k11
  have hlt : i < l.length := by omega
  obtain ⟨x, hx⟩ := get_some hlt
  have hsx : TWrite.size x ≤ 1048576 := Nat.le_trans (Q1 hx) hs
  refine C1 (A3 (C3 (A2 ?_)))
  refine A5 rfl ?_
  refine A5 rfl ?_
  refine A5 rfl ?_
  refine A5 rfl ?_
  refine A1 rfl (N5 rfl P7 X6 (A0 rfl) (A0 rfl) (by omega) (by simp only [Int.toNat_natCast, List.getElem?_map, hx, Option.map_some]; try rfl)) ?_
  refine A1 rfl (H0 rfl (A0 rfl) Tryz.isAgg219 X6) ?_
  refine A1 rfl (D8 rfl Tryz.call184 rfl (AG8 _ (by first | assumption | omega | (simp only [] at *; omega))) (A8 (A0 rfl) C8)) ?_
  refine A1 rfl (K9 0 rfl F0 G5 (A0 rfl) rfl (A0 rfl) (by omega) (by rw [Q0 hinv]; omega)) ?_
  refine R8 0 rfl rfl rfl (A0 rfl) (A0 rfl) (I7 _) rfl G5 rfl (by rw [Q0 hinv]; omega) ?_
  refine A4 (A2 ?_)
  refine A5 rfl ?_
  refine A1 rfl (E9 rfl (A0 rfl) B4 (by first | omega | (simp only [D3, B0, szR] at *; omega))) ?_
  refine B1 rfl ?_
  refine A4 ?_
  refine H6 i (i + 1) ?_ ?_ (J9 (by exact congrArg (fun z => [Own.arr v7 101 3 z]) (V4 hx)) ⟨rfl, rfl, rfl, rfl, trivial⟩)
  ·omega
  omega
 intro h11
 have k11 := of_decide_eq_false h11; try simp only [A6] at k11
 have hge : l.length ≤ i := by omega
 rw [V5 hge]
 refine F1 ?_
 refine A3 (A2 ?_)
 refine A5 rfl ?_
 refine B1 rfl ?_
 refine A4 ?_
 refine B8 ?_
 exact U7 [0] v7 (trivial) rfl (by rfl) (V6 rfl (B7 rfl (by first | rfl | (refine congrArg AV.bool ?_; simp_all; done))))
theorem AP5 (v : Value) (l : List TWrite) (k : Int) (h : 0 ≤ k ∧ k + 3 * l.length ≤ 4611686018427387904) : GSpec Tryz.prog 100 [AV.is v, AV.int k] [.arr v 101 3 (l.map TWrite.cs)] (fun _ : Unit => True) (fun _ => [.arr v 101 3 ((marks mkWrite 3 l.length k).map TWrite.cs)]) (fun _ => AV.int (k + 3 * l.length)) := by
 refine K4 Tryz.func100 rfl Tryz.ntmps100 rfl ?_
 refine A3 (A2 ?_)
 refine A1 rfl (A7 rfl B4) ?_
 refine A4 (A3 (A3 (A2 ?_)))
 refine A1 rfl (A7 rfl B4) ?_
 refine A4 (C3 ?_)
 refine J7 [(0, _), (4, _)] _ (fun (i : Nat) (c : Int) => i ≤ l.length ∧ c = k + 3 * i) (fun (i : Nat) (c : Int) => [.arr v 101 3 ((marks mkWrite 3 i k).map TWrite.cs ++ (l.drop i).map TWrite.cs)]) (fun (i : Nat) (c : Int) => [(1, AV.int c), (5, AV.int i)]) (fun (i : Nat) (c : Int) => l.length - i) (0) (k) ?_ (J9 (by simp only [marks, List.map_nil, List.nil_append, List.drop_zero]; rfl) ⟨rfl, rfl, rfl, rfl, trivial⟩) ?_
 ·exact ⟨Nat.zero_le _, by simp⟩
 intro i c hinv
 refine A3 (A3 (A2 ?_))
 refine A5 rfl ?_
 refine A5 rfl ?_
 refine A1 rfl (V3 0 rfl F0 (A0 rfl) rfl) ?_
 refine A1 rfl (F7 rfl (A0 rfl) (A0 rfl)) ?_
 refine A4 ?_
 refine C0 (A0 rfl) ?_ ?_
 ·intro h9
  have k9 := of_decide_eq_true h9; try simp only [A6] at k9
  simp only [I5, A6, H2, List.length_drop] at k9
  have hlt : i < l.length := by omega
  obtain ⟨x, hx⟩ := get_some hlt
  rw [u4 hx]
  refine C1 (A3 (C3 (A3 (A2 ?_))))
  refine A5 rfl ?_
  refine A5 rfl ?_
  refine A5 rfl ?_
  refine A1 rfl (D8 rfl Tryz.call61 rfl (T7 _ (by omega)) (A8 (A0 rfl) C8)) ?_
  refine A1 rfl (K9 0 rfl F0 G5 (A0 rfl) rfl (A0 rfl) (by omega) (by simp only [I5, A6, H2, K0, List.length_drop]; omega)) ?_
  refine A1 rfl (R7 0 rfl G7 rfl D2 (A0 rfl) rfl rfl (N9 (by simp [H2]))) ?_
  refine P1 0 rfl rfl rfl (A0 rfl) (A0 rfl) (S5 _) rfl D2 (by simp [H2]) rfl ?_
  refine A4 (A3 (A2 ?_))
  refine A5 rfl ?_
  refine A1 rfl (E9 rfl (A0 rfl) B4 (by first | omega | (simp only [D3, B0, szR] at *; omega))) ?_
  refine B1 rfl ?_
  refine A4 (A3 (A2 ?_))
  refine A5 rfl ?_
  refine A5 rfl ?_
  refine A5 rfl ?_
  refine A1 rfl (D8 rfl Tryz.call61 rfl (T7 _ (by omega)) (A8 (A0 rfl) C8)) ?_
  refine A1 rfl (K9 0 rfl F0 G5 (A0 rfl) rfl (A0 rfl) (by omega) (by simp only [I5, A6, H2, K0, List.length_drop]; omega)) ?_
  refine A1 rfl (R7 0 rfl G7 rfl D2 (A0 rfl) rfl rfl (N9 (by simp [H2]))) ?_
  refine P1 0 rfl rfl rfl (A0 rfl) (A0 rfl) (S5 _) rfl D2 (by simp [H2]) rfl ?_
  refine A4 (A3 (A2 ?_))
  refine A5 rfl ?_
  refine A1 rfl (E9 rfl (A0 rfl) B4 (by first | omega | (simp only [D3, B0, szR] at *; omega))) ?_
  refine B1 rfl ?_
  refine A4 (A3 (A2 ?_))
  refine A5 rfl ?_
  refine A5 rfl ?_
  refine A5 rfl ?_
  refine A1 rfl (AH9 rfl (A0 rfl) B4 (by first | omega | (simp only [D3, B0, szR] at *; omega))) ?_
  refine A1 rfl (R4 rfl (A0 rfl) B4) ?_
  refine A1 rfl (K9 0 rfl F0 G5 (A0 rfl) rfl (A0 rfl) (by omega) (by simp only [I5, A6, H2, K0, List.length_drop]; omega)) ?_
  refine A1 rfl (R7 0 rfl G7 rfl G3 (A0 rfl) rfl rfl (N9 (by simp [H2]))) ?_
  refine P1 0 rfl rfl rfl (A0 rfl) (A0 rfl) (f7 _) rfl G3 (by simp [H2]) rfl ?_
  refine A4 (A2 ?_)
  refine A5 rfl ?_
  refine A1 rfl (E9 rfl (A0 rfl) B4 (by first | omega | (simp only [D3, B0, szR] at *; omega))) ?_
  refine B1 rfl ?_
  refine A4 (A2 ?_)
  refine A5 rfl ?_
  refine A1 rfl (E9 rfl (A0 rfl) B4 (by first | omega | (simp only [D3, B0, szR] at *; omega))) ?_
  refine B1 rfl ?_
  refine A4 ?_
  refine J5 i c (i + 1) (c + 1 + 1 + 1) ?_ ?_ (J9 (by exact congrArg (fun z => [Own.arr v 101 3 z]) (m7 (by first | (rw [← hinv.2]; done) | (rw [← hinv.2]; rfl)))) ⟨rfl, rfl, rfl, rfl, trivial⟩)
  ·exact ⟨by omega, by omega⟩
  omega
 intro h9
 have k9 := of_decide_eq_false h9; try simp only [A6] at k9
 simp only [I5, A6, H2, List.length_drop] at k9
 have hge : i = l.length := by omega
 subst hge
 simp only [List.drop_length, List.map_nil, List.append_nil]
 refine F1 ?_
 refine A3 (A2 ?_)
 refine A5 rfl ?_
 refine B1 rfl ?_
 refine A4 ?_
 refine B8 ?_
 exact U7 [0] () (trivial) rfl (by rfl) (V6 rfl (B7 rfl (by exact congrArg AV.int (by omega))))
theorem Ar4 (l : List TVer) (hs : sizeL TVer.size l ≤ 1048576) : GSpec Tryz.prog 133 [AV.list 3 (l.map TVer.cs)] [] (fun _ : Value => True) (fun v => [.arr v 127 3 (l.map TVer.cs)]) (fun v => AV.is v) := by
 have hsl : l.length ≤ 1048576 := Nat.le_trans L4 hs
 refine K4 Tryz.func133 rfl Tryz.ntmps133 rfl ?_
 refine A3 (A2 ?_)
 refine A1 rfl (A7 rfl S0) ?_
 refine A4 (A3 (A2 ?_))
 refine A5 rfl ?_
 refine A1 rfl (E7 rfl P8 (A0 rfl)) ?_
 refine W1 (by' := 32) rfl rfl rfl rfl H4 Tryz.type127 rfl rfl rfl rfl rfl rfl (A0 rfl) (A0 rfl) (by simp only [A6]; omega) (by simp only [A6]; omega) ?_
 intro v7
 refine B1 rfl ?_
 refine A4 (A3 (A3 (A2 ?_)))
 refine A1 rfl (A7 rfl B4) ?_
 refine A4 (C3 ?_)
 refine G4 [(0, _), (2, _), (3, _)] _ (fun (i : Nat) => i ≤ l.length) (fun (i : Nat) => [.arr v7 127 3 ((l.take i).map TVer.cs ++ List.replicate (l.length - i) [AV.int 0, AV.str [], AV.bool false])]) (fun (i : Nat) => [(4, AV.int i)]) (fun (i : Nat) => l.length - i) (0) ?_ (J9 (by simp only [A6]; rfl) ⟨rfl, rfl, rfl, rfl, trivial⟩) ?_
 ·exact Nat.zero_le _
 intro i hinv
 refine A3 (A3 (A2 ?_))
 refine A5 rfl ?_
 refine A5 rfl ?_
 refine A1 rfl (E7 rfl P8 (A0 rfl)) ?_
 refine A1 rfl (F7 rfl (A0 rfl) (A0 rfl)) ?_
 refine A4 ?_
 refine C0 (A0 rfl) ?_ ?_
 ·intro h11
  have k11 := of_decide_eq_true h11; try simp only [A6] at k11
  have hlt : i < l.length := by omega
  obtain ⟨x, hx⟩ := get_some hlt
  have hsx : TVer.size x ≤ 1048576 := Nat.le_trans (Q1 hx) hs
  refine C1 (A3 (C3 (A2 ?_)))
  refine A5 rfl ?_
  refine A5 rfl ?_
  refine A5 rfl ?_
  refine A5 rfl ?_
  refine A1 rfl (N5 rfl P8 X7 (A0 rfl) (A0 rfl) (by omega) (by simp only [Int.toNat_natCast, List.getElem?_map, hx, Option.map_some]; try rfl)) ?_
  refine A1 rfl (H0 rfl (A0 rfl) Tryz.isAgg217 X7) ?_
  refine A1 rfl (D8 rfl Tryz.call183 rfl (AP3 _ (by first | assumption | omega | (simp only [] at *; omega))) (A8 (A0 rfl) C8)) ?_
  refine A1 rfl (K9 0 rfl H4 J1 (A0 rfl) rfl (A0 rfl) (by omega) (by rw [Q0 hinv]; omega)) ?_
  refine R8 0 rfl rfl rfl (A0 rfl) (A0 rfl) (I7 _) rfl J1 rfl (by rw [Q0 hinv]; omega) ?_
  refine A4 (A2 ?_)
  refine A5 rfl ?_
  refine A1 rfl (E9 rfl (A0 rfl) B4 (by first | omega | (simp only [D3, B0, szR] at *; omega))) ?_
  refine B1 rfl ?_
  refine A4 ?_
  refine H6 i (i + 1) ?_ ?_ (J9 (by exact congrArg (fun z => [Own.arr v7 127 3 z]) (V4 hx)) ⟨rfl, rfl, rfl, rfl, trivial⟩)
  ·omega
  omega
 intro h11
 have k11 := of_decide_eq_false h11; try simp only [A6] at k11
 have hge : l.length ≤ i := by omega
 rw [V5 hge]
 refine F1 ?_
 refine A3 (A2 ?_)
 refine A5 rfl ?_
 refine B1 rfl ?_
 refine A4 ?_
 refine B8 ?_
 exact U7 [0] v7 (trivial) rfl (by rfl) (V6 rfl (B7 rfl (by first | rfl | (refine congrArg AV.bool ?_; simp_all; done))))
theorem AZ7 (v : Value) (l : List TVer) (k : Int) (h : 0 ≤ k ∧ k + 3 * l.length ≤ 4611686018427387904) : GSpec Tryz.prog 98 [AV.is v, AV.int k] [.arr v 127 3 (l.map TVer.cs)] (fun _ : Unit => True) (fun _ => [.arr v 127 3 ((marks mkVer 3 l.length k).map TVer.cs)]) (fun _ => AV.int (k + 3 * l.length)) := by
 refine K4 Tryz.func98 rfl Tryz.ntmps98 rfl ?_
 refine A3 (A2 ?_)
 refine A1 rfl (A7 rfl B4) ?_
 refine A4 (A3 (A3 (A2 ?_)))
 refine A1 rfl (A7 rfl B4) ?_
 refine A4 (C3 ?_)
 refine J7 [(0, _), (4, _)] _ (fun (i : Nat) (c : Int) => i ≤ l.length ∧ c = k + 3 * i) (fun (i : Nat) (c : Int) => [.arr v 127 3 ((marks mkVer 3 i k).map TVer.cs ++ (l.drop i).map TVer.cs)]) (fun (i : Nat) (c : Int) => [(1, AV.int c), (5, AV.int i)]) (fun (i : Nat) (c : Int) => l.length - i) (0) (k) ?_ (J9 (by simp only [marks, List.map_nil, List.nil_append, List.drop_zero]; rfl) ⟨rfl, rfl, rfl, rfl, trivial⟩) ?_
 ·exact ⟨Nat.zero_le _, by simp⟩
 intro i c hinv
 refine A3 (A3 (A2 ?_))
 refine A5 rfl ?_
 refine A5 rfl ?_
 refine A1 rfl (V3 0 rfl H4 (A0 rfl) rfl) ?_
 refine A1 rfl (F7 rfl (A0 rfl) (A0 rfl)) ?_
 refine A4 ?_
 refine C0 (A0 rfl) ?_ ?_
 ·intro h9
  have k9 := of_decide_eq_true h9; try simp only [A6] at k9
  simp only [I5, A6, H2, List.length_drop] at k9
  have hlt : i < l.length := by omega
  obtain ⟨x, hx⟩ := get_some hlt
  rw [u4 hx]
  refine C1 (A3 (C3 (A3 (A2 ?_))))
  refine A5 rfl ?_
  refine A5 rfl ?_
  refine A5 rfl ?_
  refine A1 rfl (K9 0 rfl H4 J1 (A0 rfl) rfl (A0 rfl) (by omega) (by simp only [I5, A6, H2, K0, List.length_drop]; omega)) ?_
  refine A1 rfl (R7 0 rfl G2 rfl B9 (A0 rfl) rfl rfl (N9 (by simp [H2]))) ?_
  refine P1 0 rfl rfl rfl (A0 rfl) (A0 rfl) (P0 _ _) rfl B9 (by simp [H2]) rfl ?_
  refine A4 (A3 (A2 ?_))
  refine A5 rfl ?_
  refine A1 rfl (E9 rfl (A0 rfl) B4 (by first | omega | (simp only [D3, B0, szR] at *; omega))) ?_
  refine B1 rfl ?_
  refine A4 (A3 (A2 ?_))
  refine A5 rfl ?_
  refine A5 rfl ?_
  refine A5 rfl ?_
  refine A1 rfl (D8 rfl Tryz.call61 rfl (T7 _ (by omega)) (A8 (A0 rfl) C8)) ?_
  refine A1 rfl (K9 0 rfl H4 J1 (A0 rfl) rfl (A0 rfl) (by omega) (by simp only [I5, A6, H2, K0, List.length_drop]; omega)) ?_
  refine A1 rfl (R7 0 rfl G2 rfl D2 (A0 rfl) rfl rfl (N9 (by simp [H2]))) ?_
  refine P1 0 rfl rfl rfl (A0 rfl) (A0 rfl) (S5 _) rfl D2 (by simp [H2]) rfl ?_
  refine A4 (A3 (A2 ?_))
  refine A5 rfl ?_
  refine A1 rfl (E9 rfl (A0 rfl) B4 (by first | omega | (simp only [D3, B0, szR] at *; omega))) ?_
  refine B1 rfl ?_
  refine A4 (A3 (A2 ?_))
  refine A5 rfl ?_
  refine A5 rfl ?_
  refine A5 rfl ?_
  refine A1 rfl (AH9 rfl (A0 rfl) B4 (by first | omega | (simp only [D3, B0, szR] at *; omega))) ?_
  refine A1 rfl (R4 rfl (A0 rfl) B4) ?_
  refine A1 rfl (K9 0 rfl H4 J1 (A0 rfl) rfl (A0 rfl) (by omega) (by simp only [I5, A6, H2, K0, List.length_drop]; omega)) ?_
  refine A1 rfl (R7 0 rfl G2 rfl G3 (A0 rfl) rfl rfl (N9 (by simp [H2]))) ?_
  refine P1 0 rfl rfl rfl (A0 rfl) (A0 rfl) (f7 _) rfl G3 (by simp [H2]) rfl ?_
  refine A4 (A2 ?_)
  refine A5 rfl ?_
  refine A1 rfl (E9 rfl (A0 rfl) B4 (by first | omega | (simp only [D3, B0, szR] at *; omega))) ?_
  refine B1 rfl ?_
  refine A4 (A2 ?_)
  refine A5 rfl ?_
  refine A1 rfl (E9 rfl (A0 rfl) B4 (by first | omega | (simp only [D3, B0, szR] at *; omega))) ?_
  refine B1 rfl ?_
  refine A4 ?_
  refine J5 i c (i + 1) (c + 1 + 1 + 1) ?_ ?_ (J9 (by exact congrArg (fun z => [Own.arr v 127 3 z]) (m7 (by first | (rw [← hinv.2]; done) | (rw [← hinv.2]; rfl)))) ⟨rfl, rfl, rfl, rfl, trivial⟩)
  ·exact ⟨by omega, by omega⟩
  omega
 intro h9
 have k9 := of_decide_eq_false h9; try simp only [A6] at k9
 simp only [I5, A6, H2, List.length_drop] at k9
 have hge : i = l.length := by omega
 subst hge
 simp only [List.drop_length, List.map_nil, List.append_nil]
 refine F1 ?_
 refine A3 (A2 ?_)
 refine A5 rfl ?_
 refine B1 rfl ?_
 refine A4 ?_
 refine B8 ?_
 exact U7 [0] () (trivial) rfl (by rfl) (V6 rfl (B7 rfl (by exact congrArg AV.int (by omega))))
theorem Ak7 (l : List TTold) (hs : l.length ≤ 1048576) : GSpec Tryz.prog 49 [AV.list 3 (l.map TTold.cs)] [] (fun _ : Value => True) (fun v => [.arr v 144 3 (l.map TTold.cs)]) (fun v => AV.is v) := by
 have hsl : l.length ≤ 1048576 := hs
 refine K4 Tryz.func49 rfl Tryz.ntmps49 rfl ?_
 refine A3 (A2 ?_)
 refine A1 rfl (A7 rfl S0) ?_
 refine A4 (A3 (A2 ?_))
 refine A5 rfl ?_
 refine A1 rfl (E7 rfl T1 (A0 rfl)) ?_
 refine W1 (by' := 24) rfl rfl rfl rfl J8 Tryz.type144 rfl rfl rfl rfl rfl rfl (A0 rfl) (A0 rfl) (by simp only [A6]; omega) (by simp only [A6]; omega) ?_
 intro v7
 refine B1 rfl ?_
 refine A4 (A3 (A3 (A2 ?_)))
 refine A1 rfl (A7 rfl B4) ?_
 refine A4 (C3 ?_)
 refine G4 [(0, _), (2, _), (3, _)] _ (fun (i : Nat) => i ≤ l.length) (fun (i : Nat) => [.arr v7 144 3 ((l.take i).map TTold.cs ++ List.replicate (l.length - i) [AV.int 0, AV.bool false, AV.int 0])]) (fun (i : Nat) => [(4, AV.int i)]) (fun (i : Nat) => l.length - i) (0) ?_ (J9 (by simp only [A6]; rfl) ⟨rfl, rfl, rfl, rfl, trivial⟩) ?_
 ·exact Nat.zero_le _
 intro i hinv
 refine A3 (A3 (A2 ?_))
 refine A5 rfl ?_
 refine A5 rfl ?_
 refine A1 rfl (E7 rfl T1 (A0 rfl)) ?_
 refine A1 rfl (F7 rfl (A0 rfl) (A0 rfl)) ?_
 refine A4 ?_
 refine C0 (A0 rfl) ?_ ?_
 ·intro h11
  have k11 := of_decide_eq_true h11; try simp only [A6] at k11
  have hlt : i < l.length := by omega
  obtain ⟨x, hx⟩ := get_some hlt
  have hsx : x.size ≤ 1048576 := Nat.zero_le _
  refine C1 (A3 (C3 (A2 ?_)))
  refine A5 rfl ?_
  refine A5 rfl ?_
  refine A5 rfl ?_
  refine A5 rfl ?_
  refine A1 rfl (N5 rfl T1 Tryz.sizeOf146 (A0 rfl) (A0 rfl) (by omega) (by simp only [Int.toNat_natCast, List.getElem?_map, hx, Option.map_some]; try rfl)) ?_
  refine A1 rfl (H0 rfl (A0 rfl) Tryz.isAgg146 Tryz.sizeOf146) ?_
  refine A1 rfl (D8 rfl Tryz.call90 rfl (AJ9 _ (by first | assumption | omega | (simp only [] at *; omega))) (A8 (A0 rfl) C8)) ?_
  refine A1 rfl (K9 0 rfl J8 L3 (A0 rfl) rfl (A0 rfl) (by omega) (by rw [Q0 hinv]; omega)) ?_
  refine R8 0 rfl rfl rfl (A0 rfl) (A0 rfl) (I7 _) rfl L3 rfl (by rw [Q0 hinv]; omega) ?_
  refine A4 (A2 ?_)
  refine A5 rfl ?_
  refine A1 rfl (E9 rfl (A0 rfl) B4 (by first | omega | (simp only [D3, B0, szR] at *; omega))) ?_
  refine B1 rfl ?_
  refine A4 ?_
  refine H6 i (i + 1) ?_ ?_ (J9 (by exact congrArg (fun z => [Own.arr v7 144 3 z]) (V4 hx)) ⟨rfl, rfl, rfl, rfl, trivial⟩)
  ·omega
  omega
 intro h11
 have k11 := of_decide_eq_false h11; try simp only [A6] at k11
 have hge : l.length ≤ i := by omega
 rw [V5 hge]
 refine F1 ?_
 refine A3 (A2 ?_)
 refine A5 rfl ?_
 refine B1 rfl ?_
 refine A4 ?_
 refine B8 ?_
 exact U7 [0] v7 (trivial) rfl (by rfl) (V6 rfl (B7 rfl (by first | rfl | (refine congrArg AV.bool ?_; simp_all; done))))
theorem AT8 (v : Value) (l : List TTold) (k : Int) (h : 0 ≤ k ∧ k + 3 * l.length ≤ 4611686018427387904) : GSpec Tryz.prog 60 [AV.is v, AV.int k] [.arr v 144 3 (l.map TTold.cs)] (fun _ : Unit => True) (fun _ => [.arr v 144 3 ((marks mkTold 3 l.length k).map TTold.cs)]) (fun _ => AV.int (k + 3 * l.length)) := by
 refine K4 Tryz.func60 rfl Tryz.ntmps60 rfl ?_
 refine A3 (A2 ?_)
 refine A1 rfl (A7 rfl B4) ?_
 refine A4 (A3 (A3 (A2 ?_)))
 refine A1 rfl (A7 rfl B4) ?_
 refine A4 (C3 ?_)
 refine J7 [(0, _), (4, _)] _ (fun (i : Nat) (c : Int) => i ≤ l.length ∧ c = k + 3 * i) (fun (i : Nat) (c : Int) => [.arr v 144 3 ((marks mkTold 3 i k).map TTold.cs ++ (l.drop i).map TTold.cs)]) (fun (i : Nat) (c : Int) => [(1, AV.int c), (5, AV.int i)]) (fun (i : Nat) (c : Int) => l.length - i) (0) (k) ?_ (J9 (by simp only [marks, List.map_nil, List.nil_append, List.drop_zero]; rfl) ⟨rfl, rfl, rfl, rfl, trivial⟩) ?_
 ·exact ⟨Nat.zero_le _, by simp⟩
 intro i c hinv
 refine A3 (A3 (A2 ?_))
 refine A5 rfl ?_
 refine A5 rfl ?_
 refine A1 rfl (V3 0 rfl J8 (A0 rfl) rfl) ?_
 refine A1 rfl (F7 rfl (A0 rfl) (A0 rfl)) ?_
 refine A4 ?_
 refine C0 (A0 rfl) ?_ ?_
 ·intro h9
  have k9 := of_decide_eq_true h9; try simp only [A6] at k9
  simp only [I5, A6, H2, List.length_drop] at k9
  have hlt : i < l.length := by omega
  obtain ⟨x, hx⟩ := get_some hlt
  rw [u4 hx]
  refine C1 (A3 (C3 (A3 (A2 ?_))))
  refine A5 rfl ?_
  refine A5 rfl ?_
  refine A5 rfl ?_
  refine A1 rfl (K9 0 rfl J8 L3 (A0 rfl) rfl (A0 rfl) (by omega) (by simp only [I5, A6, H2, K0, List.length_drop]; omega)) ?_
  refine A1 rfl (R7 0 rfl H8 rfl B9 (A0 rfl) rfl rfl (N9 (by simp [H2]))) ?_
  refine P1 0 rfl rfl rfl (A0 rfl) (A0 rfl) (P0 _ _) rfl B9 (by simp [H2]) rfl ?_
  refine A4 (A3 (A2 ?_))
  refine A5 rfl ?_
  refine A1 rfl (E9 rfl (A0 rfl) B4 (by first | omega | (simp only [D3, B0, szR] at *; omega))) ?_
  refine B1 rfl ?_
  refine A4 (A3 (A2 ?_))
  refine A5 rfl ?_
  refine A5 rfl ?_
  refine A5 rfl ?_
  refine A1 rfl (AH9 rfl (A0 rfl) B4 (by first | omega | (simp only [D3, B0, szR] at *; omega))) ?_
  refine A1 rfl (R4 rfl (A0 rfl) B4) ?_
  refine A1 rfl (K9 0 rfl J8 L3 (A0 rfl) rfl (A0 rfl) (by omega) (by simp only [I5, A6, H2, K0, List.length_drop]; omega)) ?_
  refine A1 rfl (R7 0 rfl H8 rfl G3 (A0 rfl) rfl rfl (N9 (by simp [H2]))) ?_
  refine P1 0 rfl rfl rfl (A0 rfl) (A0 rfl) (f7 _) rfl G3 (by simp [H2]) rfl ?_
  refine A4 (A3 (A2 ?_))
  refine A5 rfl ?_
  refine A1 rfl (E9 rfl (A0 rfl) B4 (by first | omega | (simp only [D3, B0, szR] at *; omega))) ?_
  refine B1 rfl ?_
  refine A4 (A3 (A2 ?_))
  refine A5 rfl ?_
  refine A5 rfl ?_
  refine A5 rfl ?_
  refine A1 rfl (K9 0 rfl J8 L3 (A0 rfl) rfl (A0 rfl) (by omega) (by simp only [I5, A6, H2, K0, List.length_drop]; omega)) ?_
  refine A1 rfl (R7 0 rfl H8 rfl B9 (A0 rfl) rfl rfl (N9 (by simp [H2]))) ?_
  refine P1 0 rfl rfl rfl (A0 rfl) (A0 rfl) (P0 _ _) rfl B9 (by simp [H2]) rfl ?_
  refine A4 (A2 ?_)
  refine A5 rfl ?_
  refine A1 rfl (E9 rfl (A0 rfl) B4 (by first | omega | (simp only [D3, B0, szR] at *; omega))) ?_
  refine B1 rfl ?_
  refine A4 (A2 ?_)
  refine A5 rfl ?_
  refine A1 rfl (E9 rfl (A0 rfl) B4 (by first | omega | (simp only [D3, B0, szR] at *; omega))) ?_
  refine B1 rfl ?_
  refine A4 ?_
  refine J5 i c (i + 1) (c + 1 + 1 + 1) ?_ ?_ (J9 (by exact congrArg (fun z => [Own.arr v 144 3 z]) (m7 (by first | (rw [← hinv.2]; done) | (rw [← hinv.2]; rfl)))) ⟨rfl, rfl, rfl, rfl, trivial⟩)
  ·exact ⟨by omega, by omega⟩
  omega
 intro h9
 have k9 := of_decide_eq_false h9; try simp only [A6] at k9
 simp only [I5, A6, H2, List.length_drop] at k9
 have hge : i = l.length := by omega
 subst hge
 simp only [List.drop_length, List.map_nil, List.append_nil]
 refine F1 ?_
 refine A3 (A2 ?_)
 refine A5 rfl ?_
 refine B1 rfl ?_
 refine A4 ?_
 refine B8 ?_
 exact U7 [0] () (trivial) rfl (by rfl) (V6 rfl (B7 rfl (by exact congrArg AV.int (by omega))))
theorem AH0 (v : Value) (l : List TFeedItem) (k : Int) (h : 0 ≤ k ∧ k + 5 * l.length ≤ 4611686018427387904) : GSpec Tryz.prog 21 [AV.is v, AV.int k] [.arr v 63 5 (l.map TFeedItem.cs)] (fun _ : Unit => True) (fun _ => [.arr v 63 5 ((marks mkFeedItem 5 l.length k).map TFeedItem.cs)]) (fun _ => AV.int (k + 5 * l.length)) := by
 refine K4 Tryz.func21 rfl Tryz.ntmps21 rfl ?_
 refine A3 (A2 ?_)
 refine A1 rfl (A7 rfl B4) ?_
 refine A4 (A3 (A3 (A2 ?_)))
 refine A1 rfl (A7 rfl B4) ?_
 refine A4 (C3 ?_)
 refine J7 [(0, _), (4, _)] _ (fun (i : Nat) (c : Int) => i ≤ l.length ∧ c = k + 5 * i) (fun (i : Nat) (c : Int) => [.arr v 63 5 ((marks mkFeedItem 5 i k).map TFeedItem.cs ++ (l.drop i).map TFeedItem.cs)]) (fun (i : Nat) (c : Int) => [(1, AV.int c), (5, AV.int i)]) (fun (i : Nat) (c : Int) => l.length - i) (0) (k) ?_ (J9 (by simp only [marks, List.map_nil, List.nil_append, List.drop_zero]; rfl) ⟨rfl, rfl, rfl, rfl, trivial⟩) ?_
 ·exact ⟨Nat.zero_le _, by simp⟩
 intro i c hinv
 refine A3 (A3 (A2 ?_))
 refine A5 rfl ?_
 refine A5 rfl ?_
 refine A1 rfl (V3 0 rfl E5 (A0 rfl) rfl) ?_
 refine A1 rfl (F7 rfl (A0 rfl) (A0 rfl)) ?_
 refine A4 ?_
 refine C0 (A0 rfl) ?_ ?_
 ·intro h9
  have k9 := of_decide_eq_true h9; try simp only [A6] at k9
  simp only [I5, A6, H2, List.length_drop] at k9
  have hlt : i < l.length := by omega
  obtain ⟨x, hx⟩ := get_some hlt
  rw [u4 hx]
  refine C1 (A3 (C3 (A3 (A2 ?_))))
  refine A5 rfl ?_
  refine A5 rfl ?_
  refine A5 rfl ?_
  refine A1 rfl (K9 0 rfl E5 G0 (A0 rfl) rfl (A0 rfl) (by omega) (by simp only [I5, A6, H2, K0, List.length_drop]; omega)) ?_
  refine A1 rfl (R7 0 rfl F4 rfl B9 (A0 rfl) rfl rfl (N9 (by simp [H2]))) ?_
  refine P1 0 rfl rfl rfl (A0 rfl) (A0 rfl) (P0 _ _) rfl B9 (by simp [H2]) rfl ?_
  refine A4 (A3 (A2 ?_))
  refine A5 rfl ?_
  refine A1 rfl (E9 rfl (A0 rfl) B4 (by first | omega | (simp only [D3, B0, szR] at *; omega))) ?_
  refine B1 rfl ?_
  refine A4 (A3 (A2 ?_))
  refine A5 rfl ?_
  refine A5 rfl ?_
  refine A5 rfl ?_
  refine A1 rfl (K9 0 rfl E5 G0 (A0 rfl) rfl (A0 rfl) (by omega) (by simp only [I5, A6, H2, K0, List.length_drop]; omega)) ?_
  refine A1 rfl (R7 0 rfl F4 rfl B9 (A0 rfl) rfl rfl (N9 (by simp [H2]))) ?_
  refine P1 0 rfl rfl rfl (A0 rfl) (A0 rfl) (P0 _ _) rfl B9 (by simp [H2]) rfl ?_
  refine A4 (A3 (A2 ?_))
  refine A5 rfl ?_
  refine A1 rfl (E9 rfl (A0 rfl) B4 (by first | omega | (simp only [D3, B0, szR] at *; omega))) ?_
  refine B1 rfl ?_
  refine A4 (A3 (A2 ?_))
  refine A5 rfl ?_
  refine A5 rfl ?_
  refine A5 rfl ?_
  refine A1 rfl (D8 rfl Tryz.call61 rfl (T7 _ (by omega)) (A8 (A0 rfl) C8)) ?_
  refine A1 rfl (K9 0 rfl E5 G0 (A0 rfl) rfl (A0 rfl) (by omega) (by simp only [I5, A6, H2, K0, List.length_drop]; omega)) ?_
  refine A1 rfl (R7 0 rfl F4 rfl D2 (A0 rfl) rfl rfl (N9 (by simp [H2]))) ?_
  refine P1 0 rfl rfl rfl (A0 rfl) (A0 rfl) (S5 _) rfl D2 (by simp [H2]) rfl ?_
  refine A4 (A3 (A2 ?_))
  refine A5 rfl ?_
  refine A1 rfl (E9 rfl (A0 rfl) B4 (by first | omega | (simp only [D3, B0, szR] at *; omega))) ?_
  refine B1 rfl ?_
  refine A4 (A3 (A2 ?_))
  refine A5 rfl ?_
  refine A5 rfl ?_
  refine A5 rfl ?_
  refine A1 rfl (D8 rfl Tryz.call61 rfl (T7 _ (by omega)) (A8 (A0 rfl) C8)) ?_
  refine A1 rfl (K9 0 rfl E5 G0 (A0 rfl) rfl (A0 rfl) (by omega) (by simp only [I5, A6, H2, K0, List.length_drop]; omega)) ?_
  refine A1 rfl (R7 0 rfl F4 rfl D2 (A0 rfl) rfl rfl (N9 (by simp [H2]))) ?_
  refine P1 0 rfl rfl rfl (A0 rfl) (A0 rfl) (S5 _) rfl D2 (by simp [H2]) rfl ?_
  refine A4 (A3 (A2 ?_))
  refine A5 rfl ?_
  refine A1 rfl (E9 rfl (A0 rfl) B4 (by first | omega | (simp only [D3, B0, szR] at *; omega))) ?_
  refine B1 rfl ?_
  refine A4 (A3 (A2 ?_))
  refine A5 rfl ?_
  refine A5 rfl ?_
  refine A5 rfl ?_
  refine A1 rfl (AH9 rfl (A0 rfl) B4 (by first | omega | (simp only [D3, B0, szR] at *; omega))) ?_
  refine A1 rfl (R4 rfl (A0 rfl) B4) ?_
  refine A1 rfl (K9 0 rfl E5 G0 (A0 rfl) rfl (A0 rfl) (by omega) (by simp only [I5, A6, H2, K0, List.length_drop]; omega)) ?_
  refine A1 rfl (R7 0 rfl F4 rfl G3 (A0 rfl) rfl rfl (N9 (by simp [H2]))) ?_
  refine P1 0 rfl rfl rfl (A0 rfl) (A0 rfl) (f7 _) rfl G3 (by simp [H2]) rfl ?_
  refine A4 (A2 ?_)
  refine A5 rfl ?_
  refine A1 rfl (E9 rfl (A0 rfl) B4 (by first | omega | (simp only [D3, B0, szR] at *; omega))) ?_
  refine B1 rfl ?_
  refine A4 (A2 ?_)
  refine A5 rfl ?_
  refine A1 rfl (E9 rfl (A0 rfl) B4 (by first | omega | (simp only [D3, B0, szR] at *; omega))) ?_
  refine B1 rfl ?_
  refine A4 ?_
  refine J5 i c (i + 1) (c + 1 + 1 + 1 + 1 + 1) ?_ ?_ (J9 (by exact congrArg (fun z => [Own.arr v 63 5 z]) (m7 (by first | (rw [← hinv.2]; done) | (rw [← hinv.2]; rfl)))) ⟨rfl, rfl, rfl, rfl, trivial⟩)
  ·exact ⟨by omega, by omega⟩
  omega
 intro h9
 have k9 := of_decide_eq_false h9; try simp only [A6] at k9
 simp only [I5, A6, H2, List.length_drop] at k9
 have hge : i = l.length := by omega
 subst hge
 simp only [List.drop_length, List.map_nil, List.append_nil]
 refine F1 ?_
 refine A3 (A2 ?_)
 refine A5 rfl ?_
 refine B1 rfl ?_
 refine A4 ?_
 refine B8 ?_
 exact U7 [0] () (trivial) rfl (by rfl) (V6 rfl (B7 rfl (by exact congrArg AV.int (by omega))))
theorem q6 (m : Nat) (k : Int) (h : 0 ≤ k ∧ k + 5 * m ≤ 4611686018427387904) : FSpec Tryz.prog 22 [AV.list 5 ((marks mkFeedItem 5 m k).map TFeedItem.cs), AV.int k] (AV.int (k + 5 * m)) := by
 refine D0 Tryz.func22 rfl Tryz.ntmps22 rfl ?_
 refine A3 (A2 ?_)
 refine A1 rfl (A7 rfl B4) ?_
 refine A4 (A3 (A3 (A2 ?_)))
 refine A1 rfl (A7 rfl B4) ?_
 refine A4 (C3 ?_)
 refine J7 [(0, _)] _ (fun (i : Nat) (c : Int) => i ≤ m ∧ c = k + 5 * i) (fun (i : Nat) (c : Int) => []) (fun (i : Nat) (c : Int) => [(1, AV.int c), (5, AV.int i)]) (fun (i : Nat) (c : Int) => m - i) (0) (k) ?_ (G6 ⟨rfl, rfl, rfl, trivial⟩) ?_
 ·exact ⟨Nat.zero_le _, by simp⟩
 intro i c hinv
 refine A3 (A3 (A2 ?_))
 refine A5 rfl ?_
 refine A5 rfl ?_
 refine A1 rfl (E7 rfl E5 (A0 rfl)) ?_
 refine A1 rfl (F7 rfl (A0 rfl) (A0 rfl)) ?_
 refine A4 ?_
 refine C0 (A0 rfl) ?_ ?_
 ·intro h9
  have k9 := of_decide_eq_true h9; try simp only [A6] at k9
  simp only [A6, H2] at k9
  have hlt : i < m := by omega
  have hx := AW2 mkFeedItem 5 m i k hlt
  rw [← hinv.2] at hx
  refine C1 (A3 (C3 (A3 (A3 (A2 ?_)))))
  refine A5 rfl ?_
  refine A5 rfl ?_
  refine A1 rfl (I8 rfl E5 G0 (A0 rfl) (A0 rfl) hx (by first | omega | (simp only [D3, B0, szR] at *; omega))) ?_
  refine A1 rfl (Q8 rfl F4 rfl B9 (A0 rfl) rfl) ?_
  refine A1 rfl (K1 rfl (A0 rfl) D1 rfl) ?_
  refine A5 rfl ?_
  refine A1 rfl (S2 rfl (A0 rfl) (A0 rfl)) ?_
  refine A4 ?_
  refine C0 (A0 rfl) ?_ ?_
  ·intro h18
   have k18 := N8 h18; try simp only [A6] at k18
   exfalso; simp [mkFeedItem, m3] at h18
  intro h18
  have k18 := J4 h18; try simp only [A6] at k18
  refine C1 (A3 (A2 ?_))
  refine A5 rfl ?_
  refine A1 rfl (E9 rfl (A0 rfl) B4 (by first | omega | (simp only [D3, B0, szR] at *; omega))) ?_
  refine B1 rfl ?_
  refine A4 (A3 (A3 (A2 ?_)))
  refine A5 rfl ?_
  refine A5 rfl ?_
  refine A1 rfl (I8 rfl E5 G0 (A0 rfl) (A0 rfl) hx (by first | omega | (simp only [D3, B0, szR] at *; omega))) ?_
  refine A1 rfl (Q8 rfl F4 rfl B9 (A0 rfl) rfl) ?_
  refine A1 rfl (K1 rfl (A0 rfl) D1 rfl) ?_
  refine A5 rfl ?_
  refine A1 rfl (S2 rfl (A0 rfl) (A0 rfl)) ?_
  refine A4 ?_
  refine C0 (A0 rfl) ?_ ?_
  ·intro h27
   have k27 := N8 h27; try simp only [A6] at k27
   exfalso; simp [mkFeedItem, m3] at h27
  intro h27
  have k27 := J4 h27; try simp only [A6] at k27
  refine C1 (A3 (A2 ?_))
  refine A5 rfl ?_
  refine A1 rfl (E9 rfl (A0 rfl) B4 (by first | omega | (simp only [D3, B0, szR] at *; omega))) ?_
  refine B1 rfl ?_
  refine A4 (A3 (A3 ?_))
  refine H7 (by kernel_rfl) (by kernel_rfl) rfl ?_
  refine B3 rfl rfl (C4 rfl (A0 rfl)) ?_
  refine B3 rfl rfl (C4 rfl (A0 rfl)) ?_
  refine B3 rfl rfl (I8 rfl E5 G0 (A0 rfl) (A0 rfl) hx (by first | omega | (simp only [D3, B0, szR] at *; omega))) ?_
  refine B3 rfl rfl (Q8 rfl F4 rfl D2 (A0 rfl) rfl) ?_
  refine B3 rfl rfl (K1 rfl (A0 rfl) E6 rfl) ?_
  refine B3 rfl rfl (C4 rfl (A0 rfl)) ?_
  refine B3 rfl rfl (D8 rfl Tryz.call61 rfl (T7 _ (by omega)) (A8 (A0 rfl) C8)) ?_
  refine B3 rfl rfl (a7 rfl (A0 rfl) (A0 rfl)) ?_
  refine O4 ?_
  refine C0 (A0 rfl) ?_ ?_
  ·intro h37
   exfalso; simp [mkFeedItem, m3] at h37
  intro h37
  refine C1 (A3 (A2 ?_))
  refine A5 rfl ?_
  refine A1 rfl (E9 rfl (A0 rfl) B4 (by first | omega | (simp only [D3, B0, szR] at *; omega))) ?_
  refine B1 rfl ?_
  refine A4 (A3 (A3 ?_))
  refine H7 (by kernel_rfl) (by kernel_rfl) rfl ?_
  refine B3 rfl rfl (C4 rfl (A0 rfl)) ?_
  refine B3 rfl rfl (C4 rfl (A0 rfl)) ?_
  refine B3 rfl rfl (I8 rfl E5 G0 (A0 rfl) (A0 rfl) hx (by first | omega | (simp only [D3, B0, szR] at *; omega))) ?_
  refine B3 rfl rfl (Q8 rfl F4 rfl D2 (A0 rfl) rfl) ?_
  refine B3 rfl rfl (K1 rfl (A0 rfl) E6 rfl) ?_
  refine B3 rfl rfl (C4 rfl (A0 rfl)) ?_
  refine B3 rfl rfl (D8 rfl Tryz.call61 rfl (T7 _ (by omega)) (A8 (A0 rfl) C8)) ?_
  refine B3 rfl rfl (a7 rfl (A0 rfl) (A0 rfl)) ?_
  refine O4 ?_
  refine C0 (A0 rfl) ?_ ?_
  ·intro h47
   exfalso; simp [mkFeedItem, m3] at h47
  intro h47
  refine C1 (A3 (A2 ?_))
  refine A5 rfl ?_
  refine A1 rfl (E9 rfl (A0 rfl) B4 (by first | omega | (simp only [D3, B0, szR] at *; omega))) ?_
  refine B1 rfl ?_
  refine A4 (A3 (A3 (A2 ?_)))
  refine A5 rfl ?_
  refine A5 rfl ?_
  refine A1 rfl (I8 rfl E5 G0 (A0 rfl) (A0 rfl) hx (by first | omega | (simp only [D3, B0, szR] at *; omega))) ?_
  refine A1 rfl (Q8 rfl F4 rfl G3 (A0 rfl) rfl) ?_
  refine A1 rfl (K1 rfl (A0 rfl) I9 rfl) ?_
  refine A5 rfl ?_
  refine A1 rfl (AH9 rfl (A0 rfl) B4 (by first | omega | (simp only [D3, B0, szR] at *; omega))) ?_
  refine A1 rfl (R4 rfl (A0 rfl) B4) ?_
  refine A1 rfl (o7 rfl O6 (A0 rfl) (A0 rfl)) ?_
  refine A4 ?_
  refine C0 (A0 rfl) ?_ ?_
  ·intro h58
   exfalso; simp [mkFeedItem, m3] at h58
  intro h58
  refine C1 (A2 ?_)
  refine A5 rfl ?_
  refine A1 rfl (E9 rfl (A0 rfl) B4 (by first | omega | (simp only [D3, B0, szR] at *; omega))) ?_
  refine B1 rfl ?_
  refine A4 (A2 ?_)
  refine A5 rfl ?_
  refine A1 rfl (E9 rfl (A0 rfl) B4 (by first | omega | (simp only [D3, B0, szR] at *; omega))) ?_
  refine B1 rfl ?_
  refine A4 ?_
  refine J5 i c (i + 1) (c + 1 + 1 + 1 + 1 + 1) ?_ ?_ (G6 ⟨rfl, rfl, rfl, trivial⟩)
  ·exact ⟨by omega, by omega⟩
  omega
 intro h9
 have k9 := of_decide_eq_false h9; try simp only [A6] at k9
 simp only [A6, H2] at k9
 refine F1 ?_
 refine A3 (A2 ?_)
 refine A5 rfl ?_
 refine B1 rfl ?_
 refine A4 ?_
 refine B8 ?_
 exact E4 rfl (B7 rfl (by exact congrArg AV.int (by omega)))
def TRec.ow (c : TRec) (x : Value × Value) : List Own := [.arr x.1 9 1 (c.Reads.map (fun x => [AV.str x])), .arr x.2 101 3 (c.Writes.map TWrite.cs)]
def TPlaces.ow (c : TPlaces) (x : Value × Value) : List Own := [.arr x.1 9 1 (c.Cuts.map (fun x => [AV.str x])), .arr x.2 3 1 (c.Groups.map (fun x => [AV.int x]))]
def TMove.ow (c : TMove) (x : Value × Value) : List Own := [.arr x.1 101 3 (c.From.map TWrite.cs), .arr x.2 101 3 (c.To.map TWrite.cs)]
end Go.Proofs.YtkegepoihkhihaaGreat

namespace Go.AV
section
variable {T X : Type} {cs : T → List AV} {ocs : T → X → List AV} {ow : T → X → List Own}
end
end Go.AV
namespace Go.Proofs.YtkegepoihkhihaaGreat
open Go Go.AV Go.M
attribute [local irreducible] OpW OpA OpS AWP FSpec ESpec GSpec OpE RetOk RetOkG RvDen Le Ev GuardIs SrcIs
def TCell.ow (c : TCell) (x : Value) : List Own := [.arr x 127 3 (c.Vers.map TVer.cs)]
theorem TCell.lcM {own : List Own} (c : TCell) (x : Value) (h : ∀ o ∈ TCell.ow c x, o ∈ own) : LendC own (TCell.ocs c x) c.cs := W3 k0 (W3 (d5 (h _ (H5 (i := 0) rfl)) W8) AA6)
end Go.Proofs.YtkegepoihkhihaaGreat

namespace Go.Proofs.YtkegepoihkhihaaGreat
open Go Go.AV Go.M
attribute [local irreducible] OpW OpA OpS AWP FSpec ESpec GSpec OpE RetOk RetOkG RvDen Le Ev GuardIs SrcIs
end Go.Proofs.YtkegepoihkhihaaGreat

set_option maxHeartbeats 4000000
namespace Go.Proofs.YtkegepoihkhihaaGreat
open Go Go.AV Go.M
attribute [local irreducible] OpW OpA OpS AWP FSpec ESpec GSpec OpE RetOk RetOkG RvDen Le Ev GuardIs SrcIs
end Go.Proofs.YtkegepoihkhihaaGreat

namespace Go.AV
section
variable {P : Program} {G : Nat → Prop} {n : Nat} {own : List Own} {env : List (Nat × AV)} {fn : Func}
theorem Aw4 {sel : List Own} {cs : List AV} {sz : Nat} (j : Nat) (h : cs[j]? = some AV.nils) : LendC sel cs (cs.set j (AV.list sz [])) := ⟨by rw [List.length_set], fun i x y hx hy => by
  by_cases e : j = i
  · subst e
    rw [List.getElem?_set_self (List.getElem?_eq_some_iff.1 h).1] at hy
    rw [h] at hx
    injection hx with hx; injection hy with hy; subst hx; subst hy
    exact lt_nils
  · rw [List.getElem?_set_ne e, hx] at hy
    injection hy with hy; subst hy; exact k0⟩
theorem AK3 {y : AV} (i j sz : Nat) {b : Nat} {t : TypeId} {cs : List AV} (hi : own[i]? = some (.box b t cs)) (hj : cs[j]? = some AV.nils)
    (k : RetOk P (fun _ => False) n fn ⟨own.set i (.box b t (cs.set j (AV.list sz []))), env⟩ y) : RetOk P (fun _ => False) n fn ⟨own, env⟩ y := fun w0 R0 R a w hs => by
  have hle : Le (fun _ => False) n ⟨own, env⟩ ⟨own.set i (.box b t (cs.set j (AV.list sz []))), env⟩ := le_sealO [] i (.box b t (cs.set j (AV.list sz []))) rfl hi ⟨rfl, rfl, Aw4 j hj⟩ Au4
  obtain ⟨R1, h1, h2⟩ := hle w0 R0 R a w hs
  obtain ⟨v, R2, h3, h4, h5, h6⟩ := k w0 R0 R1 a w h2
  exact ⟨v, R2, h3, h4, h1.trans h5, h6⟩
end
end Go.AV

set_option maxHeartbeats 1000000
namespace Go.M
open Go.AV
def THeld.ocs (h : THeld) (x : Value × Value) : List AV := [AV.int h.Txn, AV.int h.Time, AV.int h.Lead, AV.is x.1, AV.is x.2]
def TState.ocs (s : TState) (x : Value × Value) : List AV := [AV.int s.Floor, AV.list 2 (s.Cells.map TCell.cs), AV.is x.1, AV.is x.2]
end Go.M
namespace Go.Proofs.YtkegepoihkhihaaGreat
open Go Go.AV Go.M
def THeld.ow (h : THeld) (x : Value × Value) : List Own := [.arr x.1 9 1 (h.Reads.map fun k => [AV.str k]), .arr x.2 101 3 (h.Writes.map TWrite.cs)]
def TState.ow (s : TState) (x : Value × Value) : List Own := [.arr x.1 141 5 (s.Held.map THeld.cs), .arr x.2 144 3 (s.Told.map TTold.cs)]
attribute [local irreducible] OpW OpA OpS AWP FSpec ESpec GSpec OpE RetOk RetOkG RvDen Le Ev GuardIs SrcIs Int.tmod Int.tdiv IntKind.wrap
end Go.Proofs.YtkegepoihkhihaaGreat

namespace Go.M
open Go.AV
def settled (s : TState) : Int := s.Held.foldl (fun o h => min o (h.Time - 1)) s.Floor
structure Keeps (s s' : TState) : Prop where
  floor : s.Floor ≤ s'.Floor
  told : ∀ t ∈ s.Told, t ∈ s'.Told
  tlen : s.Told.length ≤ s'.Told.length
  settled : settled s ≤ settled s'
  cells : ∀ a, a ≤ M.settled s → cellsAt s'.Cells a = cellsAt s.Cells a
theorem Keeps.refl (s : TState) : Keeps s s := ⟨Int.le_refl _, fun _ h => h, Nat.le_refl _, Int.le_refl _, fun _ _ => rfl⟩
theorem Keeps.trans {a b c : TState} (h : Keeps a b) (k : Keeps b c) : Keeps a c :=
  ⟨Int.le_trans h.floor k.floor, fun t ht => k.told t (h.told t ht), Nat.le_trans h.tlen k.tlen, Int.le_trans h.settled k.settled, fun x hx => (k.cells x (Int.le_trans hx h.settled)).trans (h.cells x hx)⟩
end Go.M

namespace Go.M
open Go.AV
theorem AZ8 {r : TRec} (h : goodRec r = true) : r.size ≤ 400 := by
  have g := goodR h
  have h1 : sizeL (fun x : Str => x.length) r.Reads ≤ r.Reads.length * 13 := x8 fun x hx => AO7 (g.reads.2 x hx)
  have h2 : sizeL TWrite.size r.Writes ≤ r.Writes.length * 37 := x8 (f := TWrite.size) fun x hx => by
    have := g.writes.2 x hx
    have k1 := AO7 this.1
    have k2 := Aq4 this.2.1
    show x.Key.length + x.Val.length ≤ 36
    omega
  have h3 : r.size = sizeL (fun x : Str => x.length) r.Reads + sizeL TWrite.size r.Writes := rfl
  have := g.reads.1
  have := g.writes.1
  omega
def zHeld : THeld := ⟨0, 0, 0, [], []⟩
def settledR (s : TState) : Int × Bool := if goodState s = true then (settled s, true) else (0, false)
theorem AH1 {l : List THeld} {i : Nat} {h : THeld} {o : Int} (hx : l[i]? = some h) : (l.take (i + 1)).foldl (fun o h => min o (h.Time - 1)) o = (if h.Time - 1 < (l.take i).foldl (fun o h => min o (h.Time - 1)) o then h.Time - 1 else (l.take i).foldl (fun o h => min o (h.Time - 1)) o) := by
  rw [List.take_add_one, hx, List.foldl_append]
  show min _ (h.Time - 1) = _
  split <;> omega
theorem AP6 {s : TState} (g : GS s) {h : THeld} (hm : h ∈ s.Held) : 1 ≤ h.Time ∧ h.Time ≤ 100000 ∧ adj wLess h.Writes = true := by
  obtain ⟨g1, g2, g3⟩ := g.good h hm
  have h1 := g1
  unfold goodRec hRec at h1
  rw [if_pos rfl] at h1
  unfold good1 isTime within at h1
  simp only [Bool.and_eq_true, decide_eq_true_eq] at h1
  exact ⟨by omega, by omega, AM7 g1⟩
end Go.M
namespace Go.Proofs.YtkegepoihkhihaaGreat
open Go Go.AV Go.M
attribute [local irreducible] OpW OpA OpS AWP FSpec ESpec GSpec OpE RetOk RetOkG RvDen Le Ev GuardIs SrcIs Int.tmod Int.tdiv IntKind.wrap
end Go.Proofs.YtkegepoihkhihaaGreat

namespace Go.M
open Go.AV
end Go.M
namespace Go.Proofs.YtkegepoihkhihaaGreat
open Go Go.AV Go.M
attribute [local irreducible] OpW OpA OpS AWP FSpec ESpec GSpec OpE RetOk RetOkG RvDen Le Ev GuardIs SrcIs Int.tmod Int.tdiv IntKind.wrap
theorem Ag3 (s : TState) (hg : goodState s = true) : FSpec Tryz.prog 85 [AV.agg s.cs] (AV.int (settled s)) := by
 have g := r4.1 hg
 have hhl := g.hlen
 refine D0 Tryz.func85 rfl Tryz.ntmps85 rfl ?_
 refine A3 (A2 ?_)
 refine I6 rfl rfl rfl rfl (A0 rfl) ?_
 intro b1
 refine A1 rfl (A7 rfl B4) ?_
 refine A4 (A3 (A2 ?_))
 refine A1 rfl (B5 0 rfl E3 rfl B9 (A0 rfl) rfl) ?_
 refine A1 rfl (B2 0 rfl (A0 rfl) rfl D1 rfl) ?_
 refine B1 rfl ?_
 refine A4 (A3 (A3 (A2 ?_)))
 refine A1 rfl (B5 2 rfl E3 rfl M9 (A0 rfl) rfl) ?_
 refine A1 rfl (B2 0 rfl (A0 rfl) rfl P9 rfl) ?_
 refine A1 rfl (E7 rfl F5 (A0 rfl)) ?_
 refine A1 rfl (C4 rfl B4) ?_
 refine A4 (C3 ?_)
 refine G4 [(2, _), (9, _), (10, _)] _ (fun (i : Nat) => i ≤ s.Held.length) (fun (i : Nat) => []) (fun (i : Nat) => [(3, AV.int ((s.Held.take i).foldl (fun o h => min o (h.Time - 1)) s.Floor)), (11, AV.int i)]) (fun (i : Nat) => s.Held.length - i) (0) ?_ (G6 ⟨rfl, rfl, rfl, rfl, rfl, trivial⟩) ?_
 ·exact Nat.zero_le _
 intro i hinv
 refine A3 (A2 ?_)
 refine A1 rfl (F7 rfl (A0 rfl) (A0 rfl)) ?_
 refine A4 (A3 ?_)
 refine C0 (A0 rfl) ?_ ?_
 ·intro h12
  have k12 := of_decide_eq_true h12; try simp only [A6] at k12
  have hlt : i < s.Held.length := by omega
  obtain ⟨h, hx⟩ := get_some hlt
  obtain ⟨q1, q2, q3⟩ := AP6 g (H5 hx)
  refine C1 (A3 (C3 (A3 (A2 ?_))))
  refine A1 rfl (I8 rfl F5 E8 (A0 rfl) (A0 rfl) hx (by first | omega | (simp only [D3, B0, szR] at *; omega))) ?_
  refine A1 rfl (H0 rfl (A0 rfl) K5 E8) ?_
  refine I2 rfl rfl rfl rfl Tryz.zeroValue141 rfl ?_
  intro b5
  refine G9 0 rfl rfl rfl (A0 rfl) (A0 rfl) (I7 _) rfl E8 rfl ?_
  refine A4 (A2 ?_)
  refine A5 rfl ?_
  refine A1 rfl (B5 1 rfl E1 rfl B9 (A0 rfl) rfl) ?_
  refine A1 rfl (B2 0 rfl (A0 rfl) rfl D1 rfl) ?_
  refine A1 rfl (O8 rfl (A0 rfl) B4 (by first | omega | (simp only [D3, B0, szR] at *; omega))) ?_
  refine A1 rfl (w_min rfl (A0 rfl) (A0 rfl)) ?_
  refine B1 rfl ?_
  refine A4 (A2 ?_)
  refine A1 rfl (E9 rfl (A0 rfl) B4 (by first | omega | (simp only [D3, B0, szR] at *; omega))) ?_
  refine A5 rfl ?_
  refine A4 ?_
  refine H6 i (i + 1) ?_ ?_ (T3 1 ⟨congrArg (fun z => some (AV.int z)) (AH1 hx).symm, rfl, rfl, rfl, rfl, trivial⟩)
  ·omega
  omega
 intro h12
 have k12 := of_decide_eq_false h12; try simp only [A6] at k12
 have hge : s.Held.length ≤ i := by omega
 rw [List.take_of_length_le hge]
 refine F1 ?_
 refine A3 (A2 ?_)
 refine A5 rfl ?_
 refine B1 rfl ?_
 refine A4 ?_
 refine B8 ?_
 exact E4 rfl (B7 rfl (by rfl))
end Go.Proofs.YtkegepoihkhihaaGreat

namespace Go.Proofs.YtkegepoihkhihaaGreat
open Go Go.AV Go.M
attribute [local irreducible] OpW OpA OpS AWP FSpec ESpec GSpec OpE RetOk RetOkG RvDen Le Ev GuardIs SrcIs Int.tmod Int.tdiv IntKind.wrap
theorem AP7 (l : List Str) (hl : l.length ≤ 4194304) : GSpec Tryz.prog 202 [strs l] [] (fun _ : Value => True) (fun v => [.arr v 9 1 (l.map fun s => [AV.str s])]) (fun v => AV.is v) := by
 refine K4 Tryz.func202 rfl Tryz.ntmps202 rfl ?_
 refine A3 (A2 ?_)
 refine A1 rfl (A7 rfl S0) ?_
 refine A4 (A3 (A2 ?_))
 refine T2 rfl rfl rfl rfl D6 D2 ?_
 intro v3
 refine A5 rfl ?_
 refine U6 (by' := 16) 0 rfl rfl rfl rfl D6 Tryz.type9 rfl rfl rfl rfl rfl rfl (A0 rfl) (A0 rfl) rfl (by simp only [X1, A6]; omega) ?_
 intro v5_1
 refine B1 rfl ?_
 refine A4 ?_
 refine B8 ?_
 exact U7 [0] v5_1 (trivial) rfl (by rfl) (V6 rfl (B7 rfl (by rfl)))
theorem AP8 (v : Value) (l : List Str) (s : Str) (hs : SrtS l) (hl : l.length ≤ 1000000) : GSpec Tryz.prog 169 [AV.is v, AV.str s] [.arr v 9 1 (l.map fun s => [AV.str s])] (fun _ : Value => True) (fun v' => [.arr v' 9 1 ((putS l s).map fun s => [AV.str s])]) (fun v' => AV.is v') := by
 refine K4 Tryz.func169 rfl Tryz.ntmps169 rfl ?_
 refine A3 (A2 ?_)
 refine A1 rfl (A7 rfl S0) ?_
 refine A4 (A3 (A2 ?_))
 refine A5 rfl ?_
 refine A1 rfl (V3 0 rfl D6 (A0 rfl) rfl) ?_
 refine B1 rfl ?_
 refine A4 (A3 (C3 ?_))
 refine G4 [(0, _), (1, _), (4, _)] _ (fun (k : Nat) => k ≤ l.length ∧ ∀ i y, k ≤ i → l[i]? = some y → Op.bytesLess s y = true) (fun (k : Nat) => []) (fun (k : Nat) => [(5, AV.int k)]) (fun (k : Nat) => k) (l.length) ?_ (G6 ⟨congrArg (fun z => some (AV.int z)) (by rw [A6]), rfl, rfl, rfl, trivial⟩) ?_
 ·exact ⟨Nat.le_refl _, fun i y h1 h2 => by (have := (List.getElem?_eq_some_iff.1 h2).1; omega)⟩
 intro k hinv
 obtain ⟨y, hy0⟩ : ∃ y, 0 < k → l[k - 1]? = some y := by (by_cases h9 : 0 < k; (have h8 := hinv.1; exact ⟨_, fun _ => List.getElem?_eq_getElem (show k - 1 < l.length by omega)⟩); exact ⟨[], fun h8 => absurd h8 h9⟩)
 refine A3 (A3 (A2 ?_))
 refine A5 rfl ?_
 refine A1 rfl (S4 rfl (A0 rfl) B4) ?_
 refine A5 rfl ?_
 refine D4 rfl (fun hc => C4 rfl (A0 rfl)) ?_
 refine D4 rfl (fun hc => C4 rfl (A0 rfl)) ?_
 refine D4 rfl (fun hc => O8 rfl (A9 rfl hc) B4 (by first | omega | ((try simp only [D3, B0, szR] at *); omega) | (have hc2 := hc; simp only [P3, beq_iff_eq, bne_iff_ne, A6, F8] at hc2; omega))) ?_
 refine D4 rfl (fun hc => K9 0 rfl D6 D2 (A9 rfl hc) rfl (A9 rfl hc) (by have := of_decide_eq_true hc; omega) (by have := of_decide_eq_true hc; have := hinv.1; simp only [A6]; omega)) ?_
 refine D4 rfl (fun hc => j3 0 rfl (A9 rfl hc) rfl E6 (u7 (hy0 (by have := of_decide_eq_true hc; omega)) (by have := of_decide_eq_true hc; omega))) ?_
 refine D4 rfl (fun hc => C4 rfl (A0 rfl)) ?_
 refine D4 rfl (fun hc => w_sgtr rfl (A9 rfl hc) (A9 rfl hc)) ?_
 refine A1 rfl (I1 rfl (A0 rfl) (F6 rfl)) ?_
 refine A4 ?_
 refine C0 (A0 rfl) ?_ ?_
 ·intro h19
  have hkt : 0 < k ∧ Op.bytesLess s y = true := by (rw [An7] at h19; simpa using h19)
  refine C1 (C3 (A2 ?_))
  refine A5 rfl ?_
  refine A1 rfl (O8 rfl (A0 rfl) B4 (by first | omega | (simp only [D3, B0, szR] at *; omega))) ?_
  refine B1 rfl ?_
  refine A4 ?_
  refine l5 ?_
  refine H6 k (k - 1) ?_ ?_ (G6 ⟨congrArg (fun z => some (AV.int z)) (by omega), rfl, rfl, rfl, trivial⟩)
  ·exact ⟨by omega, fun i z hi hz => if e : k ≤ i then hinv.2 i z e hz else (by have e2 : i = k - 1 := (by omega); subst e2; rw [hy0 hkt.1] at hz; injection hz with hz; subst hz; exact hkt.2)⟩
  omega
 intro h19
 have hng : 0 < k → Op.bytesLess s y = false := fun h => by (rw [An7] at h19; simpa [h] using h19)
 refine F1 ?_
 refine A3 (A3 (A2 ?_))
 refine A5 rfl ?_
 refine A1 rfl (S4 rfl (A0 rfl) B4) ?_
 refine A5 rfl ?_
 refine D4 rfl (fun hc => C4 rfl (A0 rfl)) ?_
 refine D4 rfl (fun hc => C4 rfl (A0 rfl)) ?_
 refine D4 rfl (fun hc => O8 rfl (A9 rfl hc) B4 (by first | omega | ((try simp only [D3, B0, szR] at *); omega) | (have hc2 := hc; simp only [P3, beq_iff_eq, bne_iff_ne, A6, F8] at hc2; omega))) ?_
 refine D4 rfl (fun hc => K9 0 rfl D6 D2 (A9 rfl hc) rfl (A9 rfl hc) (by have := of_decide_eq_true hc; omega) (by have := of_decide_eq_true hc; have := hinv.1; simp only [A6]; omega)) ?_
 refine D4 rfl (fun hc => j3 0 rfl (A9 rfl hc) rfl E6 (u7 (hy0 (by have := of_decide_eq_true hc; omega)) (by have := of_decide_eq_true hc; omega))) ?_
 refine D4 rfl (fun hc => C4 rfl (A0 rfl)) ?_
 refine D4 rfl (fun hc => t1 rfl (A9 rfl hc) (A9 rfl hc)) ?_
 refine A1 rfl (I1 rfl (A0 rfl) (F6 rfl)) ?_
 refine A4 ?_
 refine C0 (A0 rfl) ?_ ?_
 ·intro h32
  have hke : 0 < k ∧ y = s := by simpa using h32
  rw [AO8 hs (by rw [← hke.2]; exact hy0 hke.1)]
  refine A3 (A2 ?_)
  refine A5 rfl ?_
  refine B1 rfl ?_
  refine A4 ?_
  refine B8 ?_
  exact U7 [0] v (trivial) rfl (by first | rfl | exact congrArg (fun z => [Own.arr _ 9 1 z]) (by show List.map (fun s => [AV.str s]) (l.take k ++ s :: l.drop k) = (List.map (fun s => [AV.str s]) (l.take k) ++ [[AV.str s]]) ++ List.map (fun s => [AV.str s]) (l.drop k); simp)) (V6 rfl (B7 rfl (by rfl)))
 intro h32
 have hne : 0 < k → y ≠ s := fun h e => by simp [h, e] at h32
 rw [AW1 hs hinv.1 hinv.2 (fun z hz hzz => by rw [hy0 hz] at hzz; injection hzz with hzz; subst hzz; exact ⟨hng hz, hne hz⟩)]
 refine C1 (A3 (A2 ?_))
 refine A5 rfl ?_
 refine A5 rfl ?_
 refine A1 rfl (Aa6 0 rfl D6 D2 (A0 rfl) rfl (A0 rfl) (by omega) (by simp only [A6]; omega)) ?_
 refine p4 [] rfl rfl rfl rfl Tryz.call202 rfl (AP7 (l.drop k) (by rw [List.length_drop]; omega)) rfl (M5 (Ab5 (A0 rfl) (lt_tailm (H5 (i := 0) rfl) (by omega) (by omega))) T4) (by first | exact H1 | (intro _; exact H1) | (intro _; first | exact D5 _ | exact C7 _ _ | exact C2 _ | exact C9 _ | exact C6) | (intro _; refine T8 ?_; (repeat (first | exact C5 | (refine B6 (by first | (first | exact D5 _ | exact C7 _ _ | exact C2 _ | exact C9 _ | exact C6) | (refine N1 ?_; (repeat (first | exact C5 | (refine B6 (by first | exact D5 _ | exact C7 _ _ | exact C2 _ | exact C9 _ | exact C6) ?_))))) ?_))); done) | (intro _; refine N1 ?_; (repeat (first | exact C5 | (refine B6 (by first | exact D5 _ | exact C7 _ _ | exact C2 _ | exact C9 _ | exact C6) ?_))); done) | ((repeat (first | exact H1 | (refine G1 (L8 ?_) ?_; (repeat (first | exact C5 | (refine B6 (by first | exact D5 _ | exact C7 _ _ | exact C2 _ | exact C9 _ | exact C6) ?_)))) | (refine G1 (L9 ?_) ?_; (repeat (first | exact M0 | (refine M2 (fun _ => ?_); (first | exact TWrite.flat _ | exact TFeedItem.flat _ | exact TIdx.flat _ | exact TVer.flat _ | (repeat (first | exact C5 | (refine B6 (by first | exact D5 _ | exact C7 _ _ | exact C2 _ | exact C9 _ | exact C6) ?_))))) | (refine M3 ?_; (first | exact TWrite.flat _ | exact TFeedItem.flat _ | exact TIdx.flat _ | exact TVer.flat _ | (repeat (first | exact C5 | (refine B6 (by first | exact D5 _ | exact C7 _ _ | exact C2 _ | exact C9 _ | exact C6) ?_))))) | (refine K7 ?_ ?_; (first | exact TWrite.flat _ | exact TFeedItem.flat _ | exact TIdx.flat _ | exact TVer.flat _ | (repeat (first | exact C5 | (refine B6 (by first | exact D5 _ | exact C7 _ _ | exact C2 _ | exact C9 _ | exact C6) ?_))))) | refine M1 ?_ ?_))))); done) | (intro _; (repeat (first | exact H1 | (refine G1 (L8 ?_) ?_; (repeat (first | exact C5 | (refine B6 (by first | exact D5 _ | exact C7 _ _ | exact C2 _ | exact C9 _ | exact C6) ?_)))) | (refine G1 (L9 ?_) ?_; (repeat (first | exact M0 | (refine M2 (fun _ => ?_); (first | exact TWrite.flat _ | exact TFeedItem.flat _ | exact TIdx.flat _ | exact TVer.flat _ | (repeat (first | exact C5 | (refine B6 (by first | exact D5 _ | exact C7 _ _ | exact C2 _ | exact C9 _ | exact C6) ?_))))) | (refine M3 ?_; (first | exact TWrite.flat _ | exact TFeedItem.flat _ | exact TIdx.flat _ | exact TVer.flat _ | (repeat (first | exact C5 | (refine B6 (by first | exact D5 _ | exact C7 _ _ | exact C2 _ | exact C9 _ | exact C6) ?_))))) | (refine K7 ?_ ?_; (first | exact TWrite.flat _ | exact TFeedItem.flat _ | exact TIdx.flat _ | exact TVer.flat _ | (repeat (first | exact C5 | (refine B6 (by first | exact D5 _ | exact C7 _ _ | exact C2 _ | exact C9 _ | exact C6) ?_))))) | refine M1 ?_ ?_))))); done)) (by first | exact H1 | (intro _; exact H1) | (intro _; first | exact D5 _ | exact C7 _ _ | exact C2 _ | exact C9 _ | exact C6) | (intro _; refine T8 ?_; (repeat (first | exact C5 | (refine B6 (by first | (first | exact D5 _ | exact C7 _ _ | exact C2 _ | exact C9 _ | exact C6) | (refine N1 ?_; (repeat (first | exact C5 | (refine B6 (by first | exact D5 _ | exact C7 _ _ | exact C2 _ | exact C9 _ | exact C6) ?_))))) ?_))); done) | (intro _; refine N1 ?_; (repeat (first | exact C5 | (refine B6 (by first | exact D5 _ | exact C7 _ _ | exact C2 _ | exact C9 _ | exact C6) ?_))); done) | ((repeat (first | exact H1 | (refine G1 (L8 ?_) ?_; (repeat (first | exact C5 | (refine B6 (by first | exact D5 _ | exact C7 _ _ | exact C2 _ | exact C9 _ | exact C6) ?_)))) | (refine G1 (L9 ?_) ?_; (repeat (first | exact M0 | (refine M2 (fun _ => ?_); (first | exact TWrite.flat _ | exact TFeedItem.flat _ | exact TIdx.flat _ | exact TVer.flat _ | (repeat (first | exact C5 | (refine B6 (by first | exact D5 _ | exact C7 _ _ | exact C2 _ | exact C9 _ | exact C6) ?_))))) | (refine M3 ?_; (first | exact TWrite.flat _ | exact TFeedItem.flat _ | exact TIdx.flat _ | exact TVer.flat _ | (repeat (first | exact C5 | (refine B6 (by first | exact D5 _ | exact C7 _ _ | exact C2 _ | exact C9 _ | exact C6) ?_))))) | (refine K7 ?_ ?_; (first | exact TWrite.flat _ | exact TFeedItem.flat _ | exact TIdx.flat _ | exact TVer.flat _ | (repeat (first | exact C5 | (refine B6 (by first | exact D5 _ | exact C7 _ _ | exact C2 _ | exact C9 _ | exact C6) ?_))))) | refine M1 ?_ ?_))))); done) | (intro _; (repeat (first | exact H1 | (refine G1 (L8 ?_) ?_; (repeat (first | exact C5 | (refine B6 (by first | exact D5 _ | exact C7 _ _ | exact C2 _ | exact C9 _ | exact C6) ?_)))) | (refine G1 (L9 ?_) ?_; (repeat (first | exact M0 | (refine M2 (fun _ => ?_); (first | exact TWrite.flat _ | exact TFeedItem.flat _ | exact TIdx.flat _ | exact TVer.flat _ | (repeat (first | exact C5 | (refine B6 (by first | exact D5 _ | exact C7 _ _ | exact C2 _ | exact C9 _ | exact C6) ?_))))) | (refine M3 ?_; (first | exact TWrite.flat _ | exact TFeedItem.flat _ | exact TIdx.flat _ | exact TVer.flat _ | (repeat (first | exact C5 | (refine B6 (by first | exact D5 _ | exact C7 _ _ | exact C2 _ | exact C9 _ | exact C6) ?_))))) | (refine K7 ?_ ?_; (first | exact TWrite.flat _ | exact TFeedItem.flat _ | exact TIdx.flat _ | exact TVer.flat _ | (repeat (first | exact C5 | (refine B6 (by first | exact D5 _ | exact C7 _ _ | exact C2 _ | exact C9 _ | exact C6) ?_))))) | refine M1 ?_ ?_))))); done)) (by first | exact H1 | (intro _; exact H1) | (intro _; first | exact D5 _ | exact C7 _ _ | exact C2 _ | exact C9 _ | exact C6) | (intro _; refine T8 ?_; (repeat (first | exact C5 | (refine B6 (by first | (first | exact D5 _ | exact C7 _ _ | exact C2 _ | exact C9 _ | exact C6) | (refine N1 ?_; (repeat (first | exact C5 | (refine B6 (by first | exact D5 _ | exact C7 _ _ | exact C2 _ | exact C9 _ | exact C6) ?_))))) ?_))); done) | (intro _; refine N1 ?_; (repeat (first | exact C5 | (refine B6 (by first | exact D5 _ | exact C7 _ _ | exact C2 _ | exact C9 _ | exact C6) ?_))); done) | ((repeat (first | exact H1 | (refine G1 (L8 ?_) ?_; (repeat (first | exact C5 | (refine B6 (by first | exact D5 _ | exact C7 _ _ | exact C2 _ | exact C9 _ | exact C6) ?_)))) | (refine G1 (L9 ?_) ?_; (repeat (first | exact M0 | (refine M2 (fun _ => ?_); (first | exact TWrite.flat _ | exact TFeedItem.flat _ | exact TIdx.flat _ | exact TVer.flat _ | (repeat (first | exact C5 | (refine B6 (by first | exact D5 _ | exact C7 _ _ | exact C2 _ | exact C9 _ | exact C6) ?_))))) | (refine M3 ?_; (first | exact TWrite.flat _ | exact TFeedItem.flat _ | exact TIdx.flat _ | exact TVer.flat _ | (repeat (first | exact C5 | (refine B6 (by first | exact D5 _ | exact C7 _ _ | exact C2 _ | exact C9 _ | exact C6) ?_))))) | (refine K7 ?_ ?_; (first | exact TWrite.flat _ | exact TFeedItem.flat _ | exact TIdx.flat _ | exact TVer.flat _ | (repeat (first | exact C5 | (refine B6 (by first | exact D5 _ | exact C7 _ _ | exact C2 _ | exact C9 _ | exact C6) ?_))))) | refine M1 ?_ ?_))))); done) | (intro _; (repeat (first | exact H1 | (refine G1 (L8 ?_) ?_; (repeat (first | exact C5 | (refine B6 (by first | exact D5 _ | exact C7 _ _ | exact C2 _ | exact C9 _ | exact C6) ?_)))) | (refine G1 (L9 ?_) ?_; (repeat (first | exact M0 | (refine M2 (fun _ => ?_); (first | exact TWrite.flat _ | exact TFeedItem.flat _ | exact TIdx.flat _ | exact TVer.flat _ | (repeat (first | exact C5 | (refine B6 (by first | exact D5 _ | exact C7 _ _ | exact C2 _ | exact C9 _ | exact C6) ?_))))) | (refine M3 ?_; (first | exact TWrite.flat _ | exact TFeedItem.flat _ | exact TIdx.flat _ | exact TVer.flat _ | (repeat (first | exact C5 | (refine B6 (by first | exact D5 _ | exact C7 _ _ | exact C2 _ | exact C9 _ | exact C6) ?_))))) | (refine K7 ?_ ?_; (first | exact TWrite.flat _ | exact TFeedItem.flat _ | exact TIdx.flat _ | exact TVer.flat _ | (repeat (first | exact C5 | (refine B6 (by first | exact D5 _ | exact C7 _ _ | exact C2 _ | exact C9 _ | exact C6) ?_))))) | refine M1 ?_ ?_))))); done)) ?_
 intro x37 ok37
 refine B1 rfl ?_
 refine A4 (A3 ?_)
 refine AWP.le (le_sealD [0] 6 rfl rfl (d5 (H5 (i := 0) rfl) W8) (gin_cons 0 rfl rfl gin_nil)) ?_
 refine A2 ?_
 refine A5 rfl ?_
 refine A5 rfl ?_
 refine sq_ahi 0 rfl rfl rfl rfl D6 D2 (A0 rfl) rfl (A0 rfl) (by omega) (by simp only [A6]; omega) ?_
 intro v40_1
 rw [Int.toNat_natCast, ← List.map_take]
 refine p4 [] rfl rfl rfl rfl Tryz.call202 rfl (AP7 (l.take k) (by rw [F8]; omega)) rfl (M5 (j8 0 (A0 rfl) rfl) T4) (by first | exact H1 | (intro _; exact H1) | (intro _; first | exact D5 _ | exact C7 _ _ | exact C2 _ | exact C9 _ | exact C6) | (intro _; refine T8 ?_; (repeat (first | exact C5 | (refine B6 (by first | (first | exact D5 _ | exact C7 _ _ | exact C2 _ | exact C9 _ | exact C6) | (refine N1 ?_; (repeat (first | exact C5 | (refine B6 (by first | exact D5 _ | exact C7 _ _ | exact C2 _ | exact C9 _ | exact C6) ?_))))) ?_))); done) | (intro _; refine N1 ?_; (repeat (first | exact C5 | (refine B6 (by first | exact D5 _ | exact C7 _ _ | exact C2 _ | exact C9 _ | exact C6) ?_))); done) | ((repeat (first | exact H1 | (refine G1 (L8 ?_) ?_; (repeat (first | exact C5 | (refine B6 (by first | exact D5 _ | exact C7 _ _ | exact C2 _ | exact C9 _ | exact C6) ?_)))) | (refine G1 (L9 ?_) ?_; (repeat (first | exact M0 | (refine M2 (fun _ => ?_); (first | exact TWrite.flat _ | exact TFeedItem.flat _ | exact TIdx.flat _ | exact TVer.flat _ | (repeat (first | exact C5 | (refine B6 (by first | exact D5 _ | exact C7 _ _ | exact C2 _ | exact C9 _ | exact C6) ?_))))) | (refine M3 ?_; (first | exact TWrite.flat _ | exact TFeedItem.flat _ | exact TIdx.flat _ | exact TVer.flat _ | (repeat (first | exact C5 | (refine B6 (by first | exact D5 _ | exact C7 _ _ | exact C2 _ | exact C9 _ | exact C6) ?_))))) | (refine K7 ?_ ?_; (first | exact TWrite.flat _ | exact TFeedItem.flat _ | exact TIdx.flat _ | exact TVer.flat _ | (repeat (first | exact C5 | (refine B6 (by first | exact D5 _ | exact C7 _ _ | exact C2 _ | exact C9 _ | exact C6) ?_))))) | refine M1 ?_ ?_))))); done) | (intro _; (repeat (first | exact H1 | (refine G1 (L8 ?_) ?_; (repeat (first | exact C5 | (refine B6 (by first | exact D5 _ | exact C7 _ _ | exact C2 _ | exact C9 _ | exact C6) ?_)))) | (refine G1 (L9 ?_) ?_; (repeat (first | exact M0 | (refine M2 (fun _ => ?_); (first | exact TWrite.flat _ | exact TFeedItem.flat _ | exact TIdx.flat _ | exact TVer.flat _ | (repeat (first | exact C5 | (refine B6 (by first | exact D5 _ | exact C7 _ _ | exact C2 _ | exact C9 _ | exact C6) ?_))))) | (refine M3 ?_; (first | exact TWrite.flat _ | exact TFeedItem.flat _ | exact TIdx.flat _ | exact TVer.flat _ | (repeat (first | exact C5 | (refine B6 (by first | exact D5 _ | exact C7 _ _ | exact C2 _ | exact C9 _ | exact C6) ?_))))) | (refine K7 ?_ ?_; (first | exact TWrite.flat _ | exact TFeedItem.flat _ | exact TIdx.flat _ | exact TVer.flat _ | (repeat (first | exact C5 | (refine B6 (by first | exact D5 _ | exact C7 _ _ | exact C2 _ | exact C9 _ | exact C6) ?_))))) | refine M1 ?_ ?_))))); done)) (by first | exact H1 | (intro _; exact H1) | (intro _; first | exact D5 _ | exact C7 _ _ | exact C2 _ | exact C9 _ | exact C6) | (intro _; refine T8 ?_; (repeat (first | exact C5 | (refine B6 (by first | (first | exact D5 _ | exact C7 _ _ | exact C2 _ | exact C9 _ | exact C6) | (refine N1 ?_; (repeat (first | exact C5 | (refine B6 (by first | exact D5 _ | exact C7 _ _ | exact C2 _ | exact C9 _ | exact C6) ?_))))) ?_))); done) | (intro _; refine N1 ?_; (repeat (first | exact C5 | (refine B6 (by first | exact D5 _ | exact C7 _ _ | exact C2 _ | exact C9 _ | exact C6) ?_))); done) | ((repeat (first | exact H1 | (refine G1 (L8 ?_) ?_; (repeat (first | exact C5 | (refine B6 (by first | exact D5 _ | exact C7 _ _ | exact C2 _ | exact C9 _ | exact C6) ?_)))) | (refine G1 (L9 ?_) ?_; (repeat (first | exact M0 | (refine M2 (fun _ => ?_); (first | exact TWrite.flat _ | exact TFeedItem.flat _ | exact TIdx.flat _ | exact TVer.flat _ | (repeat (first | exact C5 | (refine B6 (by first | exact D5 _ | exact C7 _ _ | exact C2 _ | exact C9 _ | exact C6) ?_))))) | (refine M3 ?_; (first | exact TWrite.flat _ | exact TFeedItem.flat _ | exact TIdx.flat _ | exact TVer.flat _ | (repeat (first | exact C5 | (refine B6 (by first | exact D5 _ | exact C7 _ _ | exact C2 _ | exact C9 _ | exact C6) ?_))))) | (refine K7 ?_ ?_; (first | exact TWrite.flat _ | exact TFeedItem.flat _ | exact TIdx.flat _ | exact TVer.flat _ | (repeat (first | exact C5 | (refine B6 (by first | exact D5 _ | exact C7 _ _ | exact C2 _ | exact C9 _ | exact C6) ?_))))) | refine M1 ?_ ?_))))); done) | (intro _; (repeat (first | exact H1 | (refine G1 (L8 ?_) ?_; (repeat (first | exact C5 | (refine B6 (by first | exact D5 _ | exact C7 _ _ | exact C2 _ | exact C9 _ | exact C6) ?_)))) | (refine G1 (L9 ?_) ?_; (repeat (first | exact M0 | (refine M2 (fun _ => ?_); (first | exact TWrite.flat _ | exact TFeedItem.flat _ | exact TIdx.flat _ | exact TVer.flat _ | (repeat (first | exact C5 | (refine B6 (by first | exact D5 _ | exact C7 _ _ | exact C2 _ | exact C9 _ | exact C6) ?_))))) | (refine M3 ?_; (first | exact TWrite.flat _ | exact TFeedItem.flat _ | exact TIdx.flat _ | exact TVer.flat _ | (repeat (first | exact C5 | (refine B6 (by first | exact D5 _ | exact C7 _ _ | exact C2 _ | exact C9 _ | exact C6) ?_))))) | (refine K7 ?_ ?_; (first | exact TWrite.flat _ | exact TFeedItem.flat _ | exact TIdx.flat _ | exact TVer.flat _ | (repeat (first | exact C5 | (refine B6 (by first | exact D5 _ | exact C7 _ _ | exact C2 _ | exact C9 _ | exact C6) ?_))))) | refine M1 ?_ ?_))))); done)) (by first | exact H1 | (intro _; exact H1) | (intro _; first | exact D5 _ | exact C7 _ _ | exact C2 _ | exact C9 _ | exact C6) | (intro _; refine T8 ?_; (repeat (first | exact C5 | (refine B6 (by first | (first | exact D5 _ | exact C7 _ _ | exact C2 _ | exact C9 _ | exact C6) | (refine N1 ?_; (repeat (first | exact C5 | (refine B6 (by first | exact D5 _ | exact C7 _ _ | exact C2 _ | exact C9 _ | exact C6) ?_))))) ?_))); done) | (intro _; refine N1 ?_; (repeat (first | exact C5 | (refine B6 (by first | exact D5 _ | exact C7 _ _ | exact C2 _ | exact C9 _ | exact C6) ?_))); done) | ((repeat (first | exact H1 | (refine G1 (L8 ?_) ?_; (repeat (first | exact C5 | (refine B6 (by first | exact D5 _ | exact C7 _ _ | exact C2 _ | exact C9 _ | exact C6) ?_)))) | (refine G1 (L9 ?_) ?_; (repeat (first | exact M0 | (refine M2 (fun _ => ?_); (first | exact TWrite.flat _ | exact TFeedItem.flat _ | exact TIdx.flat _ | exact TVer.flat _ | (repeat (first | exact C5 | (refine B6 (by first | exact D5 _ | exact C7 _ _ | exact C2 _ | exact C9 _ | exact C6) ?_))))) | (refine M3 ?_; (first | exact TWrite.flat _ | exact TFeedItem.flat _ | exact TIdx.flat _ | exact TVer.flat _ | (repeat (first | exact C5 | (refine B6 (by first | exact D5 _ | exact C7 _ _ | exact C2 _ | exact C9 _ | exact C6) ?_))))) | (refine K7 ?_ ?_; (first | exact TWrite.flat _ | exact TFeedItem.flat _ | exact TIdx.flat _ | exact TVer.flat _ | (repeat (first | exact C5 | (refine B6 (by first | exact D5 _ | exact C7 _ _ | exact C2 _ | exact C9 _ | exact C6) ?_))))) | refine M1 ?_ ?_))))); done) | (intro _; (repeat (first | exact H1 | (refine G1 (L8 ?_) ?_; (repeat (first | exact C5 | (refine B6 (by first | exact D5 _ | exact C7 _ _ | exact C2 _ | exact C9 _ | exact C6) ?_)))) | (refine G1 (L9 ?_) ?_; (repeat (first | exact M0 | (refine M2 (fun _ => ?_); (first | exact TWrite.flat _ | exact TFeedItem.flat _ | exact TIdx.flat _ | exact TVer.flat _ | (repeat (first | exact C5 | (refine B6 (by first | exact D5 _ | exact C7 _ _ | exact C2 _ | exact C9 _ | exact C6) ?_))))) | (refine M3 ?_; (first | exact TWrite.flat _ | exact TFeedItem.flat _ | exact TIdx.flat _ | exact TVer.flat _ | (repeat (first | exact C5 | (refine B6 (by first | exact D5 _ | exact C7 _ _ | exact C2 _ | exact C9 _ | exact C6) ?_))))) | (refine K7 ?_ ?_; (first | exact TWrite.flat _ | exact TFeedItem.flat _ | exact TIdx.flat _ | exact TVer.flat _ | (repeat (first | exact C5 | (refine B6 (by first | exact D5 _ | exact C7 _ _ | exact C2 _ | exact C9 _ | exact C6) ?_))))) | refine M1 ?_ ?_))))); done)) ?_
 intro x41 ok41
 refine A5 rfl ?_
 refine A1 rfl (W4 rfl D6 D2 Tryz.zeroValue9 rfl rfl rfl rfl (M8 (A0 rfl) (S5 _) S7) rfl rfl) ?_
 refine U6 (by' := 16) 0 rfl rfl rfl rfl D6 Tryz.type9 rfl rfl rfl rfl rfl rfl (A0 rfl) (A0 rfl) rfl (by simp only [A6, F8, B0]; omega) ?_
 intro v44_2
 refine A5 rfl ?_
 refine U6 (by' := 16) 0 rfl rfl rfl rfl D6 Tryz.type9 rfl rfl rfl rfl rfl rfl (A0 rfl) (A0 rfl) rfl (by simp only [A6, F8, List.length_drop, I5, B0]; omega) ?_
 intro v46_3
 refine B1 rfl ?_
 refine A4 ?_
 refine B8 ?_
 exact U7 [0] v46_3 (trivial) rfl (by first | rfl | exact congrArg (fun z => [Own.arr _ 9 1 z]) (by show List.map (fun s => [AV.str s]) (l.take k ++ s :: l.drop k) = (List.map (fun s => [AV.str s]) (l.take k) ++ [[AV.str s]]) ++ List.map (fun s => [AV.str s]) (l.drop k); simp)) (V6 rfl (B7 rfl (by rfl)))
end Go.Proofs.YtkegepoihkhihaaGreat
