/- FnExactSureTo: for all arguments the program's SureTo answers what the reference's answers, and leaves its argument as it was. No condition. -/
import Derived.ProofKit
import Derived.OpenShut
import Derived.ShutString
import Derived.ChangeOld
import Derived.Test.YtkegepoihkhihaaGreatZSureTo3

set_option linter.unusedVariables false
set_option linter.unusedSimpArgs false
set_option maxRecDepth 100000
set_option maxHeartbeats 1000000
namespace Go.M
open Go.AV
theorem AU3 {l : List TWrite} (h : adj wLess l = true) (k : Str) : wHas l k = hasK l k := by
  have e := findW_eq h k
  cases hw : wHas l k with
  | true =>
    obtain ⟨x, hx, hk⟩ := wHas_iff.1 hw
    exact (T7.2 ⟨x, H0 hx, hk⟩).symm
  | false =>
    rw [hw] at e
    simp only [Bool.false_eq_true, if_false] at e
    unfold findW at e
    rw [List.find?_eq_none] at e
    cases hk : hasK l k with
    | false => rfl
    | true => obtain ⟨x, hx, hxk⟩ := T7.1 hk; have := e x hx; simp [hxk] at this
theorem AR2 {w : List TWrite} (h : goodWrites w = true) : adj wLess w = true := by
  unfold goodWrites areRising wKeys at h
  simp only [Bool.and_eq_true] at h
  have := h.1.2.2
  rw [o0] at this
  exact this
theorem AU4 {l : List TCell} (ha : adj cLess l = true) {k : Str} {c : TCell} (hc : cHas l k = true → l[cPos l k]? = some c) : fullC l k = (cHas l k && decide ((16 : Int) ≤ (c.Vers.length : Int))) := by
  unfold fullC
  rw [r6 ha]
  cases h : cHas l k with
  | false => simp
  | true =>
    rw [if_pos rfl, hc h, Bool.true_and]
    dsimp only
    rw [decide_eq_decide]; omega
theorem Z4 {l : List THeld} {i : Nat} {h : THeld} {n : Nat} (hs : sizeL THeld.size l ≤ n) (hx : l[i]? = some h) : h.size ≤ n ∧ sizeL TWrite.size h.Writes ≤ n ∧ h.Writes.length ≤ n ∧ h.Reads.length ≤ n ∧ (hRec h).size ≤ n := by
  have h1 := Nat.le_trans (O3 hx) hs
  have h2 : h.size = sizeL (fun x => x.length) h.Reads + sizeL TWrite.size h.Writes := rfl
  have h3 := K9 (f := fun x : Str => x.length) (l := h.Reads)
  have h4 := K9 (f := TWrite.size) (l := h.Writes)
  have h5 : (hRec h).size = sizeL (fun x => x.length) h.Reads + sizeL TWrite.size h.Writes := rfl
  exact ⟨by omega, by omega, by omega, by omega, by omega⟩
theorem AE0 {α : Type} {f : α → Nat} {l : List α} (i : Nat) : sizeL f (l.take i) ≤ sizeL f l := by
  have := AG5 (f := f) (l := l.take i) (r := l.drop i)
  rw [List.take_append_drop] at this; omega
theorem AO6 : ∀ {l : List THeld}, (hWs l).length ≤ sizeL THeld.size l
  | [] => Nat.zero_le _
  | h :: l => by
    have ih := AO6 (l := l)
    have h4 := K9 (f := TWrite.size) (l := h.Writes)
    have h2 : h.size = sizeL (fun x => x.length) h.Reads + sizeL TWrite.size h.Writes := rfl
    rw [c8, O9, t8]; omega
theorem AI6 {l : List THeld} {i : Nat} {h : THeld} (hx : l[i]? = some h) : hWs (l.take (i + 1)) = hWs (l.take i) ++ h.Writes := by
  rw [List.take_add_one, hx, u3]
  show _ ++ hWs [h] = _
  rw [c8]; simp [hWs]
def hCmp (n : Int) (h : THeld) : Int := cmpInt h.Txn n
def hPos (l : List THeld) (n : Int) : Nat := bs (hCmp n) l 0 l.length
def hHas (l : List THeld) (n : Int) : Bool := bsAt (hCmp n) l (hPos l n)
theorem j0 (a b : Int) : cmpInt a b < 0 ↔ a < b := by unfold cmpInt; split <;> (try split) <;> omega
theorem p2 (a b : Int) : cmpInt a b = 0 ↔ a = b := by unfold cmpInt; split <;> (try split) <;> omega
theorem AO7 {α : Type} {f : α → Int} {l : List α} (h : l.Pairwise fun a b => f a < f b) {i j : Nat} {x y : α} (hij : i < j) (hx : l[i]? = some x) (hy : l[j]? = some y) : f x < f y := by
  obtain ⟨i1, i2⟩ := List.getElem?_eq_some_iff.1 hx
  obtain ⟨j1, j2⟩ := List.getElem?_eq_some_iff.1 hy
  have := List.pairwise_iff_getElem.1 h i j i1 j1 hij
  rw [i2, j2] at this; exact this
theorem bsI_spec {α : Type} {f : α → Int} {l : List α} (h : l.Pairwise fun a b => f a < f b) (n : Int) : (∀ i x, i < bs (fun a => cmpInt (f a) n) l 0 l.length → l[i]? = some x → f x < n) ∧ (∀ x, l[bs (fun a => cmpInt (f a) n) l 0 l.length]? = some x → n ≤ f x) := by
  have := y7 (fun a => cmpInt (f a) n) l (fun i j x y hij hx hy hf => by
    rw [j0] at *
    have := AO7 h hij hx hy; omega) l.length 0 l.length rfl (Nat.zero_le _) (Nat.le_refl _) (fun k x hk => by omega) (fun x hx => by rw [List.getElem?_eq_none (Nat.le_refl _)] at hx; cases hx)
  exact ⟨fun i x hi hx => (j0 _ _).1 (this.1 i x hi hx), fun x hx => by have := this.2 x hx; rw [j0] at this; omega⟩
theorem bsI_has {α : Type} {f : α → Int} {l : List α} (h : l.Pairwise fun a b => f a < f b) (n : Int) : bsAt (fun a => cmpInt (f a) n) l (bs (fun a => cmpInt (f a) n) l 0 l.length) = l.any fun a => f a == n := by
  obtain ⟨h1, h2⟩ := bsI_spec h n
  cases ha : l.any fun a => f a == n with
  | true =>
    rw [List.any_eq_true] at ha
    obtain ⟨x, hx, e⟩ := ha
    obtain ⟨i, hi⟩ := List.getElem?_of_mem hx
    have e : f x = n := by simpa using e
    have hip : bs (fun a => cmpInt (f a) n) l 0 l.length = i := by
      rcases Nat.lt_trichotomy i (bs (fun a => cmpInt (f a) n) l 0 l.length) with h3 | h3 | h3
      · have := h1 i x h3 hi; omega
      · exact h3.symm
      · have hl := (List.getElem?_eq_some_iff.1 hi).1
        have hy := List.getElem?_eq_getElem (show bs (fun a => cmpInt (f a) n) l 0 l.length < l.length by omega)
        have h4 := h2 _ hy
        have h5 := AO7 h h3 hy hi; omega
    rw [hip]
    unfold bsAt
    rw [hi]
    simp only [(p2 _ _).2 e]; rfl
  | false =>
    rw [List.any_eq_false] at ha
    unfold bsAt
    cases e : l[bs (fun a => cmpInt (f a) n) l 0 l.length]? with
    | none => rfl
    | some x =>
      have := ha x (H0 e)
      simp only [beq_iff_eq] at this ⊢
      rw [beq_eq_false_iff_ne]
      exact fun k => this ((p2 _ _).1 k)
theorem AO8 {l : List THeld} (h : l.Pairwise fun a b => a.Txn < b.Txn) (n : Int) : hHas l n = hasH l n := bsI_has (f := THeld.Txn) h n
theorem U5 {s : TState} {n : Nat} (h : s.size ≤ n) : sizeL TCell.size s.Cells ≤ n ∧ sizeL THeld.size s.Held ≤ n ∧ s.Told.length ≤ n ∧ s.Cells.length ≤ n ∧ s.Held.length ≤ n := by
  have h1 : s.size = sizeL TCell.size s.Cells + sizeL THeld.size s.Held + s.Told.length := rfl
  have h2 := K9 (f := TCell.size) (l := s.Cells)
  have h3 := K9 (f := THeld.size) (l := s.Held)
  exact ⟨by omega, by omega, by omega, by omega, by omega⟩
theorem Z5 {s : TState} {i : Nat} {h y : THeld} (hx : s.Held[i]? = some h) (hy : s.Held[i - 1]? = some y) : heldAt s i = (!(((!goodRec (hRec h) || decide (s.Floor < h.Time)) || (decide ((0 : Int) < (i : Int)) && decide (h.Txn ≤ y.Txn)))) && (!((s.Held.take i).any fun g => clash h g) && !(h.Writes.any fun w => decide (h.Time ≤ lastTime s.Cells w.Key)))) := by
  unfold heldAt
  rw [hx]
  have h1 : hPrev s.Held i h.Txn = !(decide ((0 : Int) < (i : Int)) && decide (h.Txn ≤ y.Txn)) := by
    unfold hPrev; rw [hy]; dsimp only
    congr 2
    rw [decide_eq_decide]; omega
  have h2 : ((s.Held.take i).all fun g => apart g h.Reads h.Writes) = !((s.Held.take i).any fun g => clash h g) := by
    rw [List.not_any_eq_all_not]; congr 1; funext g; rw [o7, Bool.not_not]
  have h3 : (h.Writes.all fun w => decide (lastTime s.Cells w.Key < h.Time)) = !(h.Writes.any fun w => decide (h.Time ≤ lastTime s.Cells w.Key)) := by
    rw [List.not_any_eq_all_not]; congr 1; funext w; rw [← decide_not, decide_eq_decide]; omega
  dsimp only
  rw [h1, h2, h3]
  simp only [Bool.not_or, Bool.not_not, Bool.and_assoc]
theorem p3 {s : TState} {i : Nat} {h : THeld} (hx : s.Held[i]? = some h) (hg : heldAt s i = true) : goodRec (hRec h) = true ∧ ∀ g, 0 < i → s.Held[i - 1]? = some g → g.Txn < h.Txn := by
  unfold heldAt at hg
  rw [hx] at hg
  simp only [Bool.and_eq_true, m6] at hg
  exact ⟨hg.1.1.1.1, hg.1.1.2⟩
theorem s0 {h : THeld} (hg : goodRec (hRec h) = true) : adj wLess h.Writes = true := by
  unfold goodRec hRec at hg
  rw [if_pos rfl] at hg
  unfold good1 at hg
  simp only [Bool.and_eq_true] at hg
  exact AR2 hg.1.1.2
theorem AI7 {s : TState} (h : areHeld s = true) : s.Held.Pairwise fun a b => a.Txn < b.Txn := by
  unfold areHeld at h
  rw [Bool.and_eq_true, V3] at h
  exact i8 fun i x y h0 hx hy => (p3 hx (h.1 i (List.getElem?_eq_some_iff.1 hx).1)).2 y h0 hy
theorem e6 {s : TState} {i : Nat} {t y : TTold} (hx : s.Told[i]? = some t) (hy : s.Told[i - 1]? = some y) : toldAt s i = (!((!isTxnR t.Txn || !((t.Yes && within t.Time 1 s.Floor) || (!t.Yes && (t.Time == 0)))) || (decide ((0 : Int) < (i : Int)) && decide (t.Txn ≤ y.Txn))) && !hasH s.Held t.Txn) := by
  unfold toldAt
  rw [hx]
  have h1 : tPrev s.Told i t.Txn = !(decide ((0 : Int) < (i : Int)) && decide (t.Txn ≤ y.Txn)) := by
    unfold tPrev; rw [hy]; dsimp only
    congr 2
    rw [decide_eq_decide]; omega
  have h2 : tFits s t = ((t.Yes && within t.Time 1 s.Floor) || (!t.Yes && (t.Time == 0))) := by
    unfold tFits; cases t.Yes <;> simp
  dsimp only
  rw [h1, h2]
  generalize ((t.Yes && within t.Time 1 s.Floor) || (!t.Yes && (t.Time == 0))) = b
  simp only [Bool.not_or, Bool.not_not, Bool.and_assoc]
end Go.M
namespace Go.Proofs.YtkegepoihkhihaaGreat
open Go Go.AV Go.M
attribute [local irreducible] OpW OpA OpS AWP FSpec ESpec GSpec OpE RetOk RetOkG RvDen Le Ev GuardIs SrcIs Int.tmod Int.tdiv IntKind.wrap
theorem AE1 (w : TWrite) (os : List TWrite) (rs : List Str) (hs : os.length ≤ 4611686018427387903) (ha : adj wLess os = true) : FSpec Tryz.prog 218 [AV.agg w.cs, AV.eptr [AV.list 3 (os.map TWrite.cs)], AV.eptr [strs rs]] (AV.bool (hasK os w.Key || hasS rs w.Key)) := by
 have hwh := AU3 ha w.Key
 refine C1 Tryz.func218 rfl Tryz.ntmps218 rfl ?_
 refine A3 (A2 ?_)
 refine I2 rfl rfl rfl rfl (A0 rfl) ?_
 intro b3
 refine A1 rfl (A8 rfl D8) ?_
 refine A4 (A3 (A2 ?_))
 refine A1 rfl (I9 rfl (A0 rfl) I4 rfl) ?_
 refine A1 rfl (B2 0 rfl F5 rfl D2 (A0 rfl) rfl) ?_
 refine A1 rfl (B0 0 rfl (A0 rfl) rfl E5 rfl) ?_
 refine A1 rfl (D4 rfl Tryz.call219 rfl (z6 _ _ (by omega)) (A9 (A0 rfl) (A9 (A0 rfl) C6))) ?_
 refine A5 rfl ?_
 refine A1 rfl (K8 rfl (A0 rfl) rfl) ?_
 refine A1 rfl (K8 rfl (A0 rfl) rfl) ?_
 refine B5 rfl ?_
 refine B5 rfl ?_
 refine A4 (A3 (A2 ?_))
 refine A5 rfl ?_
 refine A5 rfl ?_
 refine I0 rfl (fun hc => I9 rfl (A0 rfl) K3 rfl) ?_
 refine I0 rfl (fun hc => B2 0 rfl F5 rfl D2 (A0 rfl) rfl) ?_
 refine I0 rfl (fun hc => B0 0 rfl (A7 rfl hc) rfl E5 rfl) ?_
 refine I0 rfl (fun hc => D4 rfl Tryz.call220 rfl (l5 _ _) (A9 (A7 rfl hc) (A9 (A7 rfl hc) C6))) ?_
 refine A1 rfl (M5 rfl (A0 rfl) (E9 rfl)) ?_
 refine B5 rfl ?_
 refine A4 ?_
 refine B7 ?_
 exact D7 rfl (B6 rfl (by exact congrArg AV.bool (by rw [hwh]; rfl)))
theorem n1 (ws : List TWrite) (rs : List Str) (os : List TWrite) (hs : os.length ≤ 4611686018427387903) (ha : adj wLess os = true) : FSpec Tryz.prog 187 [AV.list 3 (ws.map TWrite.cs), strs rs, AV.list 3 (os.map TWrite.cs)] (AV.bool (overlap ws rs os)) := by
 refine C1 Tryz.func187 rfl Tryz.ntmps187 rfl ?_
 refine A3 (A2 ?_)
 refine AN6 rfl rfl rfl rfl (A0 rfl) (p7 _ _) ?_
 intro b4
 refine AN6 rfl rfl rfl rfl (A0 rfl) (p7 _ _) ?_
 intro b5
 refine A1 rfl (A8 rfl D8) ?_
 refine A4 (A3 (A2 ?_))
 refine A5 rfl ?_
 refine A1 rfl (w_clo rfl rfl (A9 (A0 rfl) (A9 (A0 rfl) C6))) ?_
 refine A1 rfl (n7 rfl Tryz.call141 rfl (S4 _ _ _ (by first | (intros; trivial) | assumption | (intros; first | trivial | (simp_all; done)))) (E1 _) (R9 (evb (A0 rfl)) (R9 (i4 (AF8 0 1 (A0 rfl) rfl rfl) (q8 Tryz.call218 (fun w (_ : True) => AE1 w _ _ (by first | assumption | omega) (by assumption)))) X5))) ?_
 refine B5 rfl ?_
 refine A4 ?_
 refine B7 ?_
 exact D7 rfl (B6 rfl (by first | rfl | (refine congrArg AV.bool ?_; simp_all; done)))
theorem AR3 (h k : THeld) (h1 : h.Writes.length ≤ 4611686018427387903) (k1 : k.Writes.length ≤ 4611686018427387903) (ha : adj wLess h.Writes = true) (ka : adj wLess k.Writes = true) : FSpec Tryz.prog 140 [AV.agg h.cs, AV.agg k.cs] (AV.bool (clash h k)) := by
 refine C1 Tryz.func140 rfl Tryz.ntmps140 rfl ?_
 refine A3 (A2 ?_)
 refine I2 rfl rfl rfl rfl (A0 rfl) ?_
 intro b2
 refine I2 rfl rfl rfl rfl (A0 rfl) ?_
 intro b3
 refine A1 rfl (A8 rfl D8) ?_
 refine A4 (A3 (A2 ?_))
 refine A1 rfl (B2 4 rfl D5 rfl H7 (A0 rfl) rfl) ?_
 refine A1 rfl (B0 1 rfl (A0 rfl) rfl I4 rfl) ?_
 refine A1 rfl (B2 3 rfl D5 rfl J2 (A0 rfl) rfl) ?_
 refine A1 rfl (B0 0 rfl (A0 rfl) rfl K3 rfl) ?_
 refine A1 rfl (B2 4 rfl D5 rfl H7 (A0 rfl) rfl) ?_
 refine A1 rfl (B0 0 rfl (A0 rfl) rfl I4 rfl) ?_
 refine A1 rfl (D4 rfl Tryz.call187 rfl (n1 _ _ _ (by first | assumption | omega) (by assumption)) (A9 (A0 rfl) (A9 (A0 rfl) (A9 (A0 rfl) C6)))) ?_
 refine A5 rfl ?_
 refine I0 rfl (fun hc => B2 4 rfl D5 rfl H7 (A0 rfl) rfl) ?_
 refine I0 rfl (fun hc => B0 0 rfl (A7 rfl hc) rfl I4 rfl) ?_
 refine I0 rfl (fun hc => B2 3 rfl D5 rfl J2 (A0 rfl) rfl) ?_
 refine I0 rfl (fun hc => B0 1 rfl (A7 rfl hc) rfl K3 rfl) ?_
 refine I0 rfl (fun hc => B2 4 rfl D5 rfl H7 (A0 rfl) rfl) ?_
 refine I0 rfl (fun hc => B0 1 rfl (A7 rfl hc) rfl I4 rfl) ?_
 refine I0 rfl (fun hc => D4 rfl Tryz.call187 rfl (n1 _ _ _ (by first | assumption | omega) (by assumption)) (A9 (A7 rfl hc) (A9 (A7 rfl hc) (A9 (A7 rfl hc) C6)))) ?_
 refine A1 rfl (M5 rfl (A0 rfl) (E9 rfl)) ?_
 refine B5 rfl ?_
 refine A4 ?_
 refine B7 ?_
 exact D7 rfl (B6 rfl (by first | rfl | (refine congrArg AV.bool ?_; simp_all; done)))
theorem rec_spec (h : THeld) : FSpec Tryz.prog 137 [AV.agg h.cs] (AV.agg (hRec h).cs) := by
 refine C1 Tryz.func137 rfl Tryz.ntmps137 rfl ?_
 refine A3 (A2 ?_)
 refine I2 rfl rfl rfl rfl (A0 rfl) ?_
 intro b1
 refine H4 rfl rfl rfl rfl Tryz.zeroValue104 rfl ?_
 intro b2
 refine A4 (A3 (A2 ?_))
 refine A1 rfl (B2 0 rfl D5 rfl C2 (A0 rfl) rfl) ?_
 refine A1 rfl (B0 1 rfl (A0 rfl) rfl D0 rfl) ?_
 refine A1 rfl (B2 1 rfl D5 rfl C2 (A0 rfl) rfl) ?_
 refine A1 rfl (B0 1 rfl (A0 rfl) rfl D0 rfl) ?_
 refine A1 rfl (B2 2 rfl D5 rfl C2 (A0 rfl) rfl) ?_
 refine A1 rfl (B0 1 rfl (A0 rfl) rfl D0 rfl) ?_
 refine A1 rfl (B2 3 rfl D5 rfl J2 (A0 rfl) rfl) ?_
 refine A1 rfl (B0 1 rfl (A0 rfl) rfl K3 rfl) ?_
 refine A1 rfl (B2 4 rfl D5 rfl H7 (A0 rfl) rfl) ?_
 refine A1 rfl (B0 1 rfl (A0 rfl) rfl I4 rfl) ?_
 refine A1 rfl (x4 (places := #[(0, 1), (1, 1), (2, 1), (3, 1), (4, 1), (5, 1), (6, 1)]) rfl C8 Tryz.zeroValue104 (fun w => by kernel_rfl) rfl (O2 B3 (T4 _ _) (O2 (A0 rfl) (T4 _ _) (O2 (A0 rfl) (T4 _ _) (O2 (A0 rfl) (T4 _ _) (O2 (A0 rfl) (U2 _ _) (O2 (A0 rfl) (U2 _ _) Z1)))))) rfl) ?_
 refine H1 0 rfl rfl rfl (A0 rfl) (A0 rfl) (I6 _) rfl Tryz.sizeOf104 rfl ?_
 refine A4 ?_
 refine B7 ?_
 exact D7 rfl (U1 (ys := _) 0 rfl rfl Tryz.isAgg104 Tryz.sizeOf104 rfl)
theorem AI8 {l : List TCell} {h : List THeld} (a b : Nat) (hl : sizeL TCell.size l ≤ 1048576) (hh : sizeL THeld.size h ≤ 1048576) : (cKeys (l.take a) ++ wKeys (hWs (h.take b))).length ≤ 2097152 := by
  have h1 := K9 (f := TCell.size) (l := l)
  have h2 := AO6 (l := h.take b)
  have h3 := AE0 (f := THeld.size) (l := h) b
  unfold cKeys wKeys
  simp only [O9, A6, G2]
  omega
theorem AU5 (s : TState) (held : List THeld) (hg : goodCells s.Cells = true) (hs : s.size ≤ 1048576) (hh : sizeL THeld.size held ≤ 1048576) : FSpec Tryz.prog 143 [AV.agg s.cs, AV.list 5 (held.map THeld.cs)] (AV.bool (decide (held.length ≤ 12) && room s.Cells (hWs held))) := by
 obtain ⟨hs1, hs2, hs3, hs4, hs5⟩ := U5 hs
 have hca := (U7 hg).2.1
 have hhl := K9 (f := THeld.size) (l := held)
 obtain ⟨p, hp⟩ : ∃ p : TWrite → Bool, p = fun w => !fullC s.Cells w.Key := ⟨_, rfl⟩
 refine C1 Tryz.func143 rfl Tryz.ntmps143 rfl ?_
 refine A3 (A2 ?_)
 refine I2 rfl rfl rfl rfl (A0 rfl) ?_
 intro b2
 refine A1 rfl (A8 rfl D8) ?_
 refine A4 (A3 (A2 ?_))
 refine V9 rfl rfl rfl rfl C7 D2 ?_
 intro v14
 refine B5 rfl ?_
 refine A4 (A3 (A3 (A2 ?_)))
 refine A1 rfl (B2 1 rfl D6 rfl J9 (A0 rfl) rfl) ?_
 refine A1 rfl (B0 1 rfl (A0 rfl) rfl L3 rfl) ?_
 refine A1 rfl (E4 rfl F1 (A0 rfl)) ?_
 refine A1 rfl (C3 rfl B3) ?_
 refine A4 (C5 ?_)
 refine T9 [(1, _), (2, _), (4, _), (16, _), (17, _)] _ (fun (i : Nat) (v : Value) (ks : List Str) => i ≤ s.Cells.length ∧ ks = cKeys (s.Cells.take i)) (fun (i : Nat) (v : Value) (ks : List Str) => [.arr v 9 1 (ks.map fun k => [AV.str k])]) (fun (i : Nat) (v : Value) (ks : List Str) => [(5, AV.is v), (18, AV.int i)]) (fun (i : Nat) (v : Value) (ks : List Str) => s.Cells.length - i) (0) (v14) ([]) ?_ (M7 (by rfl) ⟨rfl, rfl, rfl, rfl, rfl, rfl, rfl, trivial⟩) ?_
 ·exact ⟨Nat.zero_le _, rfl⟩
 intro i v ks hinv
 refine A3 (A2 ?_)
 refine A1 rfl (F8 rfl (A0 rfl) (A0 rfl)) ?_
 refine A4 (A3 ?_)
 refine B8 (A0 rfl) ?_ ?_
 ·intro h19
  have k19 := of_decide_eq_true h19; try simp only [A6] at k19
  have hlt : i < s.Cells.length := by omega
  obtain ⟨c, hx⟩ := get_some hlt
  have hkl : ks.length ≤ 1048576 := by rw [hinv.2]; unfold cKeys; rw [A6, G2]; omega
  refine B9 (A3 (C5 (A3 (A2 ?_))))
  refine A1 rfl (H8 rfl F1 E8 (A0 rfl) (A0 rfl) hx (by first | omega | (simp only [D1, B1, szR] at *; omega))) ?_
  refine A1 rfl (G8 rfl (A0 rfl) L2 E8) ?_
  refine H4 rfl rfl rfl rfl Tryz.zeroValue125 rfl ?_
  intro b7
  refine H1 0 rfl rfl rfl (A0 rfl) (A0 rfl) (I6 _) rfl E8 rfl ?_
  refine A4 (A2 ?_)
  refine A5 rfl ?_
  refine A1 rfl (B2 0 rfl F6 rfl D2 (A0 rfl) rfl) ?_
  refine A1 rfl (B0 0 rfl (A0 rfl) rfl E5 rfl) ?_
  refine A1 rfl (c5 rfl C7 D2 Tryz.zeroValue9 rfl rfl rfl rfl (O2 (A0 rfl) (U8 _) Z1) rfl rfl) ?_
  refine S0 (by' := 16) 1 rfl rfl rfl rfl C7 Tryz.type9 rfl rfl rfl rfl rfl rfl (A0 rfl) (A0 rfl) rfl (by first | omega | (simp only [D1, B1, szR] at *; omega)) ?_
  intro v26_1
  refine B5 rfl ?_
  refine A4 (A2 ?_)
  refine A1 rfl (G6 rfl (A0 rfl) B3 (by first | omega | (simp only [D1, B1, szR] at *; omega))) ?_
  refine A5 rfl ?_
  refine A4 ?_
  refine T3 i v ks (i + 1) (v26_1) (ks ++ [c.Key]) ?_ ?_ (S1 1 (by (rw [List.map_append]; rfl)) ⟨rfl, rfl, rfl, rfl, rfl, rfl, rfl, trivial⟩)
  ·exact ⟨by omega, by rw [hinv.2]; unfold cKeys; rw [List.take_add_one, hx, List.map_append]; rfl⟩
  omega
 intro h19
 have k19 := of_decide_eq_false h19; try simp only [A6] at k19
 have hge : s.Cells.length ≤ i := by omega
 have hks : ks = cKeys s.Cells := by rw [hinv.2, List.take_of_length_le hge]
 refine F3 ?_
 refine A3 (A3 (A2 ?_))
 refine A5 rfl ?_
 refine A1 rfl (E4 rfl F0 (A0 rfl)) ?_
 refine A1 rfl (C3 rfl B3) ?_
 refine A4 (C5 ?_)
 refine T9 [(1, _), (2, _), (28, _), (29, _)] _ (fun (q : Nat) (v1 : Value) (k1 : List Str) => q ≤ held.length ∧ k1 = cKeys s.Cells ++ wKeys (hWs (held.take q)) ∧ (hWs held).all p = (hWs (held.drop q)).all p) (fun (q : Nat) (v1 : Value) (k1 : List Str) => [.arr v1 9 1 (k1.map fun k => [AV.str k])]) (fun (q : Nat) (v1 : Value) (k1 : List Str) => [(5, AV.is v1), (30, AV.int q)]) (fun (q : Nat) (v1 : Value) (k1 : List Str) => held.length - q) (0) (v) (ks) ?_ (M7 (by rfl) ⟨rfl, rfl, rfl, rfl, rfl, rfl, trivial⟩) ?_
 ·exact ⟨Nat.zero_le _, by rw [hks, List.take_zero]; simp [hWs, wKeys], rfl⟩
 intro q v1 k1 hinv
 refine A3 (A2 ?_)
 refine A1 rfl (F8 rfl (A0 rfl) (A0 rfl)) ?_
 refine A4 (A3 ?_)
 refine B8 (A0 rfl) ?_ ?_
 ·intro h31
  have k31 := of_decide_eq_true h31; try simp only [A6] at k31
  have hlt : q < held.length := by omega
  obtain ⟨h, hh0⟩ := get_some hlt
  obtain ⟨g1, g2, g3, g4, g5⟩ := Z4 hh hh0
  have hinv1 := hinv
  refine B9 (A3 (C5 (A3 (A2 ?_))))
  refine A1 rfl (H8 rfl F0 E3 (A0 rfl) (A0 rfl) hh0 (by first | omega | (simp only [D1, B1, szR] at *; omega))) ?_
  refine A1 rfl (G8 rfl (A0 rfl) I5 E3) ?_
  refine H4 rfl rfl rfl rfl Tryz.zeroValue141 rfl ?_
  intro b9
  refine H1 0 rfl rfl rfl (A0 rfl) (A0 rfl) (I6 _) rfl E3 rfl ?_
  refine A4 (A3 (A2 ?_))
  refine A1 rfl (B2 4 rfl D5 rfl H7 (A0 rfl) rfl) ?_
  refine A1 rfl (B0 0 rfl (A0 rfl) rfl I4 rfl) ?_
  refine A1 rfl (E4 rfl E6 (A0 rfl)) ?_
  refine A1 rfl (C3 rfl B3) ?_
  refine A4 (C5 ?_)
  refine AWP.le (X1 [1] rfl) ?_
  refine T9 [(1, _), (2, _), (9, _), (28, _), (29, _), (30, _), (31, _), (32, _), (33, _), (34, _), (35, _), (36, _)] _ (fun (r : Nat) (v2 : Value) (k2 : List Str) => r ≤ h.Writes.length ∧ k2 = k1 ++ wKeys (h.Writes.take r) ∧ h.Writes.all p = (h.Writes.drop r).all p) (fun (r : Nat) (v2 : Value) (k2 : List Str) => [.arr v2 9 1 (k2.map fun k => [AV.str k])]) (fun (r : Nat) (v2 : Value) (k2 : List Str) => [(5, AV.is v2), (37, AV.int r)]) (fun (r : Nat) (v2 : Value) (k2 : List Str) => h.Writes.length - r) (0) (v1) (k1) ?_ (M7 (by rfl) ⟨rfl, rfl, rfl, rfl, rfl, rfl, rfl, rfl, rfl, rfl, rfl, rfl, rfl, rfl, trivial⟩) ?_
  ·exact ⟨Nat.zero_le _, by simp [wKeys], rfl⟩
  intro r v2 k2 hinv
  refine A3 (A2 ?_)
  refine A1 rfl (F8 rfl (A0 rfl) (A0 rfl)) ?_
  refine A4 (A3 ?_)
  refine B8 (A0 rfl) ?_ ?_
  ·intro h38
   have k38 := of_decide_eq_true h38; try simp only [A6] at k38
   have hlt2 : r < h.Writes.length := by omega
   obtain ⟨w, hw⟩ := get_some hlt2
   obtain ⟨c, hc0⟩ := n9 s.Cells (cPos s.Cells w.Key)
   have hc1 : cHas s.Cells w.Key = true → s.Cells[cPos s.Cells w.Key]? = some c := fun e => by (obtain ⟨y, hy, _⟩ := i7.1 e; exact hc0 (List.getElem?_eq_some_iff.1 hy).1)
   have hfu := AU4 hca hc1
   have hk2l : k2.length ≤ 3145728 := by rw [hinv.2.1, hinv1.2.1]; have := AI8 s.Cells.length q hs1 hh; rw [List.take_length] at this; unfold wKeys at this ⊢; simp only [O9, A6, G2] at this ⊢; omega
   refine B9 (A3 (C5 (A3 (A2 ?_))))
   refine A1 rfl (H8 rfl E6 F7 (A0 rfl) (A0 rfl) hw (by first | omega | (simp only [D1, B1, szR] at *; omega))) ?_
   refine A1 rfl (G8 rfl (A0 rfl) L5 F7) ?_
   refine H4 rfl rfl rfl rfl Tryz.zeroValue101 rfl ?_
   intro b11
   refine H1 0 rfl rfl rfl (A0 rfl) (A0 rfl) (I6 _) rfl F7 rfl ?_
   refine A4 (A3 (A3 (A2 ?_)))
   refine A1 rfl (B2 1 rfl D6 rfl J9 (A0 rfl) rfl) ?_
   refine A1 rfl (B0 3 rfl (A0 rfl) rfl L3 rfl) ?_
   refine A1 rfl (B2 0 rfl F5 rfl D2 (A0 rfl) rfl) ?_
   refine A1 rfl (B0 0 rfl (A0 rfl) rfl E5 rfl) ?_
   refine A1 rfl (D4 rfl Tryz.call122 rfl (k5 s.Cells w.Key (by omega)) (A9 (A0 rfl) (A9 (A0 rfl) C6))) ?_
   refine A5 rfl ?_
   refine A1 rfl (K8 rfl (A0 rfl) rfl) ?_
   refine A1 rfl (K8 rfl (A0 rfl) rfl) ?_
   refine B5 rfl ?_
   refine B5 rfl ?_
   refine A4 (A3 (A2 ?_))
   refine A5 rfl ?_
   refine A5 rfl ?_
   refine C4 rfl (fun hc => B2 1 rfl D6 rfl J9 (A0 rfl) rfl) ?_
   refine C4 rfl (fun hc => B0 3 rfl (A7 rfl hc) rfl L3 rfl) ?_
   refine C4 rfl (fun hc => C3 rfl (A0 rfl)) ?_
   refine C4 rfl (fun hc => M1 rfl F1 E8 (A7 rfl hc) (A7 rfl hc) (by have := (List.getElem?_eq_some_iff.1 (hc1 hc)).1; omega) (by rw [Int.toNat_natCast, List.getElem?_map, hc1 hc]; rfl)) ?_
   refine C4 rfl (fun hc => P9 rfl F6 rfl K2 (A7 rfl hc) rfl) ?_
   refine C4 rfl (fun hc => I9 rfl (A7 rfl hc) L6 rfl) ?_
   refine C4 rfl (fun hc => E4 rfl H2 (A7 rfl hc)) ?_
   refine C4 rfl (fun hc => R8 rfl (A7 rfl hc) B3) ?_
   refine A1 rfl (G4 rfl (A0 rfl) (E9 rfl)) ?_
   refine A4 ?_
   refine B8 (A0 rfl) ?_ ?_
   ·intro h59
    have hpw : p w = false := by rw [hp]; simp only [Bool.not_eq_false']; rw [hfu]; simpa using h59
    have hro : room s.Cells (hWs held) = false := by (unfold room; rw [show ((hWs held).all fun w => !fullC s.Cells w.Key) = false from by rw [← hp, hinv1.2.2, drop_some hh0, c8, List.all_append, hinv.2.2, drop_some hw, List.all_cons, hpw]; rfl]; rfl)
    refine A3 (A2 ?_)
    refine A1 rfl (A8 rfl D8) ?_
    refine A4 ?_
    refine B7 ?_
    exact D7 rfl (B6 rfl (by first | exact congrArg AV.bool (by rw [hro]; simp) | exact congrArg AV.bool (by rw [hre, Bool.eq_iff_iff]; simp only [Bool.and_eq_true, decide_eq_true_eq, decide_eq_false_iff_not, A6, Bool.false_eq_true, and_false, false_and, false_iff] at *; omega)))
   intro h59
   have hpw : p w = true := by rw [hp]; simp only [Bool.not_eq_true']; rw [hfu]; simpa using h59
   refine B9 (A2 ?_)
   refine A5 rfl ?_
   refine A1 rfl (B2 0 rfl F5 rfl D2 (A0 rfl) rfl) ?_
   refine A1 rfl (B0 0 rfl (A0 rfl) rfl E5 rfl) ?_
   refine A1 rfl (c5 rfl C7 D2 Tryz.zeroValue9 rfl rfl rfl rfl (O2 (A0 rfl) (U8 _) Z1) rfl rfl) ?_
   refine S0 (by' := 16) 1 rfl rfl rfl rfl C7 Tryz.type9 rfl rfl rfl rfl rfl rfl (A0 rfl) (A0 rfl) rfl (by first | omega | (simp only [D1, B1, szR] at *; omega)) ?_
   intro v64_2
   refine B5 rfl ?_
   refine A4 (A2 ?_)
   refine A1 rfl (G6 rfl (A0 rfl) B3 (by first | omega | (simp only [D1, B1, szR] at *; omega))) ?_
   refine A5 rfl ?_
   refine A4 ?_
   refine T3 r v2 k2 (r + 1) (v64_2) (k2 ++ [w.Key]) ?_ ?_ (Le.trans (X1 [0, 0] rfl) (S1 1 (by (rw [List.map_append]; rfl)) ⟨rfl, rfl, rfl, rfl, rfl, rfl, rfl, rfl, rfl, rfl, rfl, rfl, rfl, rfl, trivial⟩))
   ·exact ⟨by omega, by rw [hinv.2.1]; unfold wKeys; rw [List.take_add_one, hw, List.map_append, List.append_assoc]; rfl, by rw [hinv.2.2, drop_some hw, List.all_cons, hpw]; rfl⟩
   omega
  intro h38
  have k38 := of_decide_eq_false h38; try simp only [A6] at k38
  have hge2 : h.Writes.length ≤ r := by omega
  have hk2 : k2 = k1 ++ wKeys h.Writes := by rw [hinv.2.1, List.take_of_length_le hge2]
  have hal : h.Writes.all p = true := by rw [hinv.2.2, List.drop_eq_nil_of_le hge2]; rfl
  refine F3 ?_
  refine A2 ?_
  refine A1 rfl (G6 rfl (A0 rfl) B3 (by first | omega | (simp only [D1, B1, szR] at *; omega))) ?_
  refine A5 rfl ?_
  refine A4 ?_
  refine T3 q v1 k1 (q + 1) (v2) (k2) ?_ ?_ (Le.trans (X1 [1, 0] rfl) (S1 1 (by rfl) ⟨rfl, rfl, rfl, rfl, rfl, rfl, trivial⟩))
  ·exact ⟨by omega, by rw [hk2, hinv1.2.1, AI6 hh0]; simp [wKeys], by rw [hinv1.2.2, drop_some hh0, c8, List.all_append, hal]; rfl⟩
  omega
 intro h31
 have k31 := of_decide_eq_false h31; try simp only [A6] at k31
 have hge : held.length ≤ q := by omega
 have hk9 : k1 = cKeys s.Cells ++ wKeys (hWs held) := by rw [hinv.2.1, List.take_of_length_le hge]
 have hal9 : (hWs held).all p = true := by rw [hinv.2.2, List.drop_eq_nil_of_le hge]; rfl
 have hln := AI8 s.Cells.length held.length hs1 hh
 rw [List.take_length, List.take_length, ← hk9] at hln
 have hre : room s.Cells (hWs held) = decide ((cmpL (sortS k1)).length ≤ 24) := by (unfold room roomKs keysI; rw [← hp, hal9, ← hk9]; rfl)
 refine F3 ?_
 refine A3 (A2 ?_)
 refine A5 rfl ?_
 refine i6 [0] rfl rfl rfl rfl Tryz.call189 rfl (AI5 _ k1 (by omega)) (A9 (A0 rfl) C6) rfl ?_
 intro x68 ok68
 refine A4 (A3 (A2 ?_))
 refine A5 rfl ?_
 refine A1 rfl (E4 rfl F0 (A0 rfl)) ?_
 refine A1 rfl (O6 rfl (A0 rfl) B3) ?_
 refine A5 rfl ?_
 refine C4 rfl (fun hc => C3 rfl (A0 rfl)) ?_
 refine r9 rfl rfl (n5 rfl rfl rfl) ?_ ?_
 ·intro gh74
  refine i6 [0] rfl rfl rfl rfl Tryz.call190 rfl (AA3 _ (sortS k1) (by rw [AB9]; omega)) (A9 (A7 rfl gh74) C6) rfl ?_
  intro x74 ok74
  refine C4 rfl (fun hc => f8 0 rfl C7 (A0 rfl) rfl) ?_
  refine C4 rfl (fun hc => O6 rfl (A7 rfl hc) B3) ?_
  refine A1 rfl (G4 rfl (A0 rfl) (E9 rfl)) ?_
  refine B5 rfl ?_
  refine A4 ?_
  refine B7 ?_
  exact D7 rfl (B6 rfl (by first | exact congrArg AV.bool (by rw [hro]; simp) | exact congrArg AV.bool (by rw [hre, Bool.eq_iff_iff]; simp only [Bool.and_eq_true, decide_eq_true_eq, decide_eq_false_iff_not, A6, Bool.false_eq_true, and_false, false_and, false_iff] at *; omega)))
 intro gh74
 refine r9 rfl rfl (n5 rfl rfl rfl) (fun hq => by rw [gh74] at hq; cases hq) (fun _ => ?_)
 refine r9 rfl rfl (n5 rfl rfl rfl) (fun hq => by rw [gh74] at hq; cases hq) (fun _ => ?_)
 refine A1 rfl (G4 rfl (A0 rfl) (evif_no (x := AV.bool false) gh74)) ?_
 refine B5 rfl ?_
 refine A4 ?_
 refine B7 ?_
 exact D7 rfl (B6 rfl (by first | exact congrArg AV.bool (by rw [hro]; simp) | exact congrArg AV.bool (by rw [hre, Bool.eq_iff_iff]; simp only [Bool.and_eq_true, decide_eq_true_eq, decide_eq_false_iff_not, A6, Bool.false_eq_true, and_false, false_and, false_iff] at *; omega)))
theorem AE2 (h k : THeld) (h1 : h.Writes.length ≤ 4611686018427387903) (ha : adj wLess h.Writes = true) (hk : adj wLess k.Writes = true ∧ k.Writes.length ≤ 4611686018427387903) : FSpec Tryz.prog 139 [AV.agg k.cs, AV.eptr h.cs] (AV.bool (clash h k)) := by
 obtain ⟨ka, k1⟩ := hk
 refine C1 Tryz.func139 rfl Tryz.ntmps139 rfl ?_
 refine A3 (A2 ?_)
 refine I2 rfl rfl rfl rfl (A0 rfl) ?_
 intro b2
 refine A1 rfl (A8 rfl D8) ?_
 refine A4 (A3 (A2 ?_))
 refine A1 rfl (G8 rfl (A0 rfl) I5 E3) ?_
 refine A1 rfl (M0 0 rfl (A0 rfl) rfl I5 E3 rfl) ?_
 refine A1 rfl (D4 rfl Tryz.call140 rfl (AR3 _ _ (by first | assumption | omega) (by first | assumption | omega) (by assumption) (by assumption)) (A9 (A0 rfl) (A9 (A0 rfl) C6))) ?_
 refine B5 rfl ?_
 refine A4 ?_
 refine B7 ?_
 exact D7 rfl (B6 rfl (by first | rfl | (refine congrArg AV.bool ?_; simp_all; done)))
theorem AE3 (h : THeld) (s : TState) (w : TWrite) (ho : CellsOk s.Cells) (hs : sizeL TCell.size s.Cells ≤ 1048576) : FSpec Tryz.prog 142 [AV.agg w.cs, AV.eptr h.cs, AV.eptr s.cs] (AV.bool (decide (h.Time ≤ lastTime s.Cells w.Key))) := by
 refine C1 Tryz.func142 rfl Tryz.ntmps142 rfl ?_
 refine A3 (A2 ?_)
 refine I2 rfl rfl rfl rfl (A0 rfl) ?_
 intro b3
 refine A1 rfl (A8 rfl D8) ?_
 refine A4 (A3 ?_)
 refine H5 (by kernel_rfl) (by kernel_rfl) rfl ?_
 refine B4 rfl rfl (P9 rfl D5 rfl C2 (A0 rfl) rfl) ?_
 refine B4 rfl rfl (I9 rfl (A0 rfl) D0 rfl) ?_
 refine B4 rfl rfl (P9 rfl D6 rfl J9 (A0 rfl) rfl) ?_
 refine B4 rfl rfl (I9 rfl (A0 rfl) L3 rfl) ?_
 refine B4 rfl rfl (B2 0 rfl F5 rfl D2 (A0 rfl) rfl) ?_
 refine B4 rfl rfl (B0 0 rfl (A0 rfl) rfl E5 rfl) ?_
 refine B4 rfl rfl (D4 rfl Tryz.call92 rfl (k6 _ _ (by first | assumption | exact Q2 (by assumption)) (by first | assumption | omega)) (A9 (A0 rfl) (A9 (A0 rfl) C6))) ?_
 refine B4 rfl rfl (O6 rfl (A0 rfl) (A0 rfl)) ?_
 refine B4 rfl rfl (A8 rfl (A0 rfl)) ?_
 refine M6 ?_
 refine B7 ?_
 exact D7 rfl (B6 rfl (by first | rfl | (refine congrArg AV.bool ?_; simp_all; done)))
theorem AI9 (s : TState) (hg : goodCells s.Cells = true) (hs : s.size ≤ 1048576) : FSpec Tryz.prog 91 [AV.agg s.cs] (AV.bool (areHeld s)) := by
 obtain ⟨hs1, hs2, hs3, hs4, hs5⟩ := U5 hs
 have hco := Q2 hg
 refine C1 Tryz.func91 rfl Tryz.ntmps91 rfl ?_
 refine A3 (A2 ?_)
 refine I2 rfl rfl rfl rfl (A0 rfl) ?_
 intro b1
 refine A1 rfl (A8 rfl D8) ?_
 refine A4 (A3 (A3 (A2 ?_)))
 refine A1 rfl (B2 2 rfl D6 rfl K6 (A0 rfl) rfl) ?_
 refine A1 rfl (B0 0 rfl (A0 rfl) rfl L7 rfl) ?_
 refine A1 rfl (E4 rfl F0 (A0 rfl)) ?_
 refine A1 rfl (C3 rfl B3) ?_
 refine A4 (C5 ?_)
 refine G0 [(1, _), (6, _), (7, _)] _ (fun (i : Nat) => i ≤ s.Held.length ∧ ∀ j, j < i → heldAt s j = true) (fun (i : Nat) => []) (fun (i : Nat) => [(8, AV.int i)]) (fun (i : Nat) => s.Held.length - i) (0) ?_ (G1 ⟨rfl, rfl, rfl, rfl, trivial⟩) ?_
 ·exact ⟨Nat.zero_le _, fun j hj => by omega⟩
 intro i hinv
 refine A3 (A2 ?_)
 refine A1 rfl (F8 rfl (A0 rfl) (A0 rfl)) ?_
 refine A4 (A3 ?_)
 refine B8 (A0 rfl) ?_ ?_
 ·intro h9
  have k9 := of_decide_eq_true h9; try simp only [A6] at k9
  have hlt : i < s.Held.length := by omega
  obtain ⟨h, hx⟩ := get_some hlt
  obtain ⟨y, hy⟩ := get_some (show i - 1 < s.Held.length by omega)
  obtain ⟨g1, g2, g3, g4, g5⟩ := Z4 hs2 hx
  refine B9 (A3 (C5 (A3 (A2 ?_))))
  refine A5 rfl ?_
  refine A1 rfl (H8 rfl F0 E3 (A0 rfl) (A0 rfl) hx (by first | omega | (simp only [D1, B1, szR] at *; omega))) ?_
  refine A1 rfl (G8 rfl (A0 rfl) I5 E3) ?_
  refine H4 rfl rfl rfl rfl Tryz.zeroValue141 rfl ?_
  intro b4
  refine B5 rfl ?_
  refine H1 0 rfl rfl rfl (A0 rfl) (A0 rfl) (I6 _) rfl E3 rfl ?_
  refine A4 (A3 (A3 ?_))
  refine H5 (by kernel_rfl) (by kernel_rfl) rfl ?_
  refine B4 rfl rfl (M0 0 rfl (A0 rfl) rfl I5 E3 rfl) ?_
  refine B4 rfl rfl (D4 rfl Tryz.call137 rfl (rec_spec _) (A9 (A0 rfl) C6)) ?_
  refine B4 rfl rfl (D4 rfl Tryz.call136 rfl (AI3 _ (by first | assumption | omega)) (A9 (A0 rfl) C6)) ?_
  refine B4 rfl rfl (I3 rfl (A0 rfl)) ?_
  refine B4 rfl rfl (C3 rfl (A0 rfl)) ?_
  refine D3 rfl (F2 rfl rfl rfl) (fun hc => B2 1 rfl D5 rfl C2 (A0 rfl) rfl) ?_
  refine D3 rfl (F2 rfl rfl rfl) (fun hc => B0 0 rfl (A7 rfl hc) rfl D0 rfl) ?_
  refine D3 rfl (F2 rfl rfl rfl) (fun hc => B2 0 rfl D6 rfl C2 (A0 rfl) rfl) ?_
  refine D3 rfl (F2 rfl rfl rfl) (fun hc => B0 1 rfl (A7 rfl hc) rfl D0 rfl) ?_
  refine D3 rfl (F2 rfl rfl rfl) (fun hc => P8 rfl (A7 rfl hc) (A7 rfl hc)) ?_
  refine B4 rfl rfl (M5 rfl (A0 rfl) (E9 rfl)) ?_
  refine B4 rfl rfl (C3 rfl (A0 rfl)) ?_
  refine D3 rfl (F2 rfl rfl rfl) (fun hc => C3 rfl (A0 rfl)) ?_
  refine D3 rfl (F2 rfl rfl rfl) (fun hc => P8 rfl (A7 rfl hc) B3) ?_
  refine D3 rfl (F2 rfl rfl rfl) (fun hc => C3 rfl (A7 rfl hc)) ?_
  refine D3 rfl (C9 rfl rfl rfl) (fun hc => B2 0 rfl D5 rfl C2 (A0 rfl) rfl) ?_
  refine D3 rfl (C9 rfl rfl rfl) (fun hc => B0 0 rfl (A7 rfl hc) rfl D0 rfl) ?_
  refine D3 rfl (C9 rfl rfl rfl) (fun hc => B2 2 rfl D6 rfl K6 (A0 rfl) rfl) ?_
  refine D3 rfl (C9 rfl rfl rfl) (fun hc => B0 1 rfl (A7 rfl hc) rfl L7 rfl) ?_
  refine D3 rfl (C9 rfl rfl rfl) (fun hc => C3 rfl (A0 rfl)) ?_
  refine D3 rfl (C9 rfl rfl rfl) (fun hc => L1 rfl (A7 rfl hc) B3 (by first | omega | ((try simp only [D1, B1, szR] at *); omega) | (have hc2 := hc; simp only [L4, beq_iff_eq, bne_iff_ne, A6, G2] at hc2; omega))) ?_
  refine D3 rfl (C9 rfl rfl rfl) (fun hc => H8 rfl F0 E3 (A7 rfl hc) (A7 rfl hc) hy (by first | omega | ((try simp only [D1, B1, szR] at *); omega) | (have hc2 := hc; simp only [L4, beq_iff_eq, bne_iff_ne, A6, G2] at hc2; omega))) ?_
  refine D3 rfl (C9 rfl rfl rfl) (fun hc => P9 rfl D5 rfl C2 (A7 rfl hc) rfl) ?_
  refine D3 rfl (C9 rfl rfl rfl) (fun hc => I9 rfl (A7 rfl hc) D0 rfl) ?_
  refine D3 rfl (C9 rfl rfl rfl) (fun hc => O6 rfl (A7 rfl hc) (A7 rfl hc)) ?_
  refine D3 rfl (F2 rfl rfl rfl) (fun hc => G4 rfl (A7 rfl hc) (K4 rfl hc)) ?_
  refine B4 rfl rfl (M5 rfl (A0 rfl) (E9 rfl)) ?_
  refine M6 ?_
  refine B8 (A0 rfl) ?_ ?_
  ·intro h39
   have hfin : areHeld s = false := by (unfold areHeld; rw [Q0 hlt (by rw [Z5 hx hy, h39]; rfl)]; rfl)
   refine A3 (A2 ?_)
   refine A1 rfl (A8 rfl D8) ?_
   refine A4 ?_
   refine B7 ?_
   exact D7 rfl (B6 rfl (by first | exact congrArg AV.bool hfin.symm | exact congrArg AV.bool (by unfold areHeld; rw [hall]; rfl)))
  intro h39
  have hgr : goodRec (hRec h) = true := by (simp only [Bool.or_eq_false_iff, Bool.not_eq_false'] at h39; exact h39.1.1)
  have hwa := s0 hgr
  have hwl : h.Writes.length ≤ 4611686018427387903 := by omega
  have hpre : ∀ g ∈ s.Held.take i, adj wLess g.Writes = true ∧ g.Writes.length ≤ 4611686018427387903 := fun g hm => by (obtain ⟨j, hj⟩ := List.getElem?_of_mem hm; have hjl := (List.getElem?_eq_some_iff.1 hj).1; rw [G2] at hjl; rw [List.getElem?_take_of_lt (by omega)] at hj; have k1 := Z4 hs2 hj; exact ⟨s0 (p3 hj (hinv.2 j (by omega))).1, by omega⟩)
  refine B9 (A3 (A3 (A2 ?_)))
  refine A1 rfl (B2 2 rfl D6 rfl K6 (A0 rfl) rfl) ?_
  refine A1 rfl (B0 1 rfl (A0 rfl) rfl L7 rfl) ?_
  refine A5 rfl ?_
  refine A1 rfl (AB2 rfl F0 E3 (A0 rfl) (A0 rfl) (by first | omega | (simp only [D1, B1, szR] at *; omega)) (by first | omega | (simp only [D1, B1, szR] at *; omega))) ?_
  refine A1 rfl (w_clo rfl rfl (A9 (A0 rfl) C6)) ?_
  refine A1 rfl (n7 rfl Tryz.call138 rfl (f9 (s.Held.take i) (fun g => adj wLess g.Writes = true ∧ g.Writes.length ≤ 4611686018427387903) (fun g => clash h g) hpre) (E1 _) (R9 (evb (A0 rfl)) (R9 (i4 (evb_clo1 0 (A0 rfl) rfl) (q8 Tryz.call139 (fun g hg => AE2 _ g (by first | assumption | omega) (by assumption) hg))) X5))) ?_
  refine A4 ?_
  refine B8 (A0 rfl) ?_ ?_
  ·intro h45
   have hfin : areHeld s = false := by (unfold areHeld; rw [Q0 hlt (by rw [Z5 hx hy, h45]; simp)]; rfl)
   refine A3 (A2 ?_)
   refine A1 rfl (A8 rfl D8) ?_
   refine A4 ?_
   refine B7 ?_
   exact D7 rfl (B6 rfl (by first | exact congrArg AV.bool hfin.symm | exact congrArg AV.bool (by unfold areHeld; rw [hall]; rfl)))
  intro h45
  refine B9 (A3 (A2 ?_))
  refine A1 rfl (B2 4 rfl D5 rfl H7 (A0 rfl) rfl) ?_
  refine A1 rfl (B0 0 rfl (A0 rfl) rfl I4 rfl) ?_
  refine A1 rfl (w_clo rfl rfl (A9 (A0 rfl) (A9 (A0 rfl) C6))) ?_
  refine A1 rfl (n7 rfl Tryz.call141 rfl (S4 _ _ _ (by first | (intros; trivial) | assumption | (intros; first | trivial | (simp_all; done)))) (E1 _) (R9 (evb (A0 rfl)) (R9 (i4 (AF8 0 1 (A0 rfl) rfl rfl) (q8 Tryz.call142 (fun w (_ : True) => AE3 _ _ w (by assumption) (by first | assumption | omega)))) X5))) ?_
  refine A4 ?_
  refine B8 (A0 rfl) ?_ ?_
  ·intro h49
   have hfin : areHeld s = false := by (unfold areHeld; rw [Q0 hlt (by rw [Z5 hx hy, h49]; simp)]; rfl)
   refine A3 (A2 ?_)
   refine A1 rfl (A8 rfl D8) ?_
   refine A4 ?_
   refine B7 ?_
   exact D7 rfl (B6 rfl (by first | exact congrArg AV.bool hfin.symm | exact congrArg AV.bool (by unfold areHeld; rw [hall]; rfl)))
  intro h49
  refine B9 (A2 ?_)
  refine A1 rfl (G6 rfl (A0 rfl) B3 (by first | omega | (simp only [D1, B1, szR] at *; omega))) ?_
  refine A5 rfl ?_
  refine A4 ?_
  refine G9 i (i + 1) ?_ ?_ (N0 1 ⟨rfl, rfl, rfl, rfl, trivial⟩)
  ·exact ⟨by omega, fun j hj => if hji : j < i then hinv.2 j hji else (by have e : j = i := (by omega); subst e; rw [Z5 hx hy, h39, h45, h49]; rfl)⟩
  omega
 intro h9
 have k9 := of_decide_eq_false h9; try simp only [A6] at k9
 have hge : s.Held.length ≤ i := by omega
 have hall : allB s.Held.length (heldAt s) = true := V3.2 fun j hj => hinv.2 j (by omega)
 refine F3 ?_
 refine A3 (A2 ?_)
 refine A1 rfl (M0 0 rfl (A0 rfl) rfl L0 I1 rfl) ?_
 refine A1 rfl (B2 2 rfl D6 rfl K6 (A0 rfl) rfl) ?_
 refine A1 rfl (B0 0 rfl (A0 rfl) rfl L7 rfl) ?_
 refine A1 rfl (D4 rfl Tryz.call143 rfl (AU5 _ _ (by assumption) (by first | assumption | omega) (by first | assumption | omega)) (A9 (A0 rfl) (A9 (A0 rfl) C6))) ?_
 refine B5 rfl ?_
 refine A4 ?_
 refine B7 ?_
 exact D7 rfl (B6 rfl (by first | exact congrArg AV.bool hfin.symm | exact congrArg AV.bool (by unfold areHeld; rw [hall]; rfl)))
theorem AA4 (h : THeld) (n : Int) : FSpec Tryz.prog 145 [AV.agg h.cs, AV.int n] (AV.int (hCmp n h)) := by
 refine C1 Tryz.func145 rfl Tryz.ntmps145 rfl ?_
 refine A3 (A2 ?_)
 refine I2 rfl rfl rfl rfl (A0 rfl) ?_
 intro b2
 refine A1 rfl (A8 rfl B3) ?_
 refine A4 (A3 (A2 ?_))
 refine A1 rfl (B2 0 rfl D5 rfl C2 (A0 rfl) rfl) ?_
 refine A1 rfl (B0 0 rfl (A0 rfl) rfl D0 rfl) ?_
 refine A5 rfl ?_
 refine A1 rfl (D4 rfl Tryz.call104 rfl (AK8 _ _) (A9 (A0 rfl) (A9 (A0 rfl) C6))) ?_
 refine B5 rfl ?_
 refine A4 ?_
 refine B7 ?_
 exact D7 rfl (B6 rfl (by first | rfl | (refine congrArg AV.bool ?_; simp_all; done)))
theorem AJ0 (f : Int) (c t : List (List AV)) (l : List THeld) (n : Int) (hs : l.length ≤ 1048576) : FSpec Tryz.prog 94 [AV.agg [AV.int f, AV.list 2 c, AV.list 5 (l.map THeld.cs), AV.list 3 t], AV.int n] (AV.tup [AV.int (hPos l n), AV.bool (hHas l n)]) := by
 refine C1 Tryz.func94 rfl Tryz.ntmps94 rfl ?_
 refine A3 (A2 ?_)
 refine I2 rfl rfl rfl rfl (A0 rfl) ?_
 intro b2
 refine A1 rfl (A8 rfl B3) ?_
 refine A1 rfl (A8 rfl D8) ?_
 refine A4 (A3 (A2 ?_))
 refine A1 rfl (B2 2 rfl D6 rfl K6 (A0 rfl) rfl) ?_
 refine A1 rfl (B0 0 rfl (A0 rfl) rfl L7 rfl) ?_
 refine A5 rfl ?_
 refine A1 rfl (D4 rfl Tryz.call144 rfl (g7 _ _ _ (by first | (intros; trivial) | assumption | (intros; first | trivial | (simp_all; done))) _ (by omega)) (A9 (A0 rfl) (A9 (A0 rfl) (A9 (x5 Tryz.call145 (fun h n (_ : True) => AA4 h n)) C6)))) ?_
 refine A1 rfl (K8 rfl (A0 rfl) rfl) ?_
 refine A1 rfl (K8 rfl (A0 rfl) rfl) ?_
 refine B5 rfl ?_
 refine B5 rfl ?_
 refine A4 ?_
 refine B7 ?_
 exact W1 rfl (by decide) (K5 (B6 rfl (by first | rfl | (refine congrArg AV.bool ?_; simp_all; done))) (K5 (B6 rfl (by first | rfl | (refine congrArg AV.bool ?_; simp_all; done))) Q9))
theorem AE4 (s : TState) (n : Int) (hs : s.Held.length ≤ 1048576) : FSpec Tryz.prog 94 [AV.agg s.cs, AV.int n] (AV.tup [AV.int (hPos s.Held n), AV.bool (hHas s.Held n)]) := AJ0 _ _ _ s.Held n hs
theorem AA5 (s : TState) (hs : s.size ≤ 1048576) : FSpec Tryz.prog 50 [AV.agg s.cs] (AV.bool (goodState s)) := by
 obtain ⟨hs1, hs2, hs3, hs4, hs5⟩ := U5 hs
 refine C1 Tryz.func50 rfl Tryz.ntmps50 rfl ?_
 refine A3 (A2 ?_)
 refine I2 rfl rfl rfl rfl (A0 rfl) ?_
 intro b1
 refine A1 rfl (A8 rfl D8) ?_
 refine A4 (A3 (A3 (A2 ?_)))
 refine A1 rfl (B2 0 rfl D6 rfl C2 (A0 rfl) rfl) ?_
 refine A1 rfl (B0 0 rfl (A0 rfl) rfl D0 rfl) ?_
 refine A1 rfl (D4 rfl Tryz.call52 rfl (AK9 _) (A9 (A0 rfl) C6)) ?_
 refine A1 rfl (I3 rfl (A0 rfl)) ?_
 refine A5 rfl ?_
 refine I0 rfl (fun hc => B2 1 rfl D6 rfl J9 (A0 rfl) rfl) ?_
 refine I0 rfl (fun hc => B0 0 rfl (A7 rfl hc) rfl L3 rfl) ?_
 refine I0 rfl (fun hc => D4 rfl Tryz.call77 rfl (z7 _ (by first | assumption | omega)) (A9 (A7 rfl hc) C6)) ?_
 refine I0 rfl (fun hc => I3 rfl (A7 rfl hc)) ?_
 refine A1 rfl (M5 rfl (A0 rfl) (E9 rfl)) ?_
 refine A5 rfl ?_
 refine I0 rfl (fun hc => M0 0 rfl (A0 rfl) rfl L0 I1 rfl) ?_
 refine I0 rfl (fun hc => D4 rfl Tryz.call91 rfl (AI9 s (by have h9 := hc; simp at h9; exact h9.2) hs) (A9 (A7 rfl hc) C6)) ?_
 refine I0 rfl (fun hc => I3 rfl (A7 rfl hc)) ?_
 refine A1 rfl (M5 rfl (A0 rfl) (E9 rfl)) ?_
 refine A5 rfl ?_
 refine I0 rfl (fun hc => B2 3 rfl D6 rfl N7 (A0 rfl) rfl) ?_
 refine I0 rfl (fun hc => B0 0 rfl (A7 rfl hc) rfl Q7 rfl) ?_
 refine I0 rfl (fun hc => E4 rfl J1 (A7 rfl hc)) ?_
 refine I0 rfl (fun hc => P8 rfl (A7 rfl hc) B3) ?_
 refine A1 rfl (M5 rfl (A0 rfl) (E9 rfl)) ?_
 refine A4 ?_
 refine B8 (A0 rfl) ?_ ?_
 ·intro h30
  have hfin : goodState s = false := by (unfold goodState; simp only [Bool.or_eq_true, Bool.not_eq_true', decide_eq_true_eq, A6] at h30; rcases h30 with ((h | h) | h) | h; (rw [h]; rfl); (rw [h]; simp); (rw [h]; simp); (rw [decide_eq_false (show ¬ s.Told.length ≤ 60 by omega)]; simp))
  refine A3 (A2 ?_)
  refine A1 rfl (A8 rfl D8) ?_
  refine A4 ?_
  refine B7 ?_
  exact D7 rfl (B6 rfl (by exact congrArg AV.bool hfin.symm))
 intro h30
 simp only [Bool.or_eq_false_iff, Bool.not_eq_false', decide_eq_false_iff_not, A6] at h30
 obtain ⟨⟨⟨q1, q2⟩, q3⟩, q4⟩ := h30
 have hco := Q2 q2
 have hsrt := AI7 q3
 have hgs : goodState s = ((s.Cells.all fun c => decide (lastTime s.Cells c.Key ≤ s.Floor)) && allB s.Told.length (toldAt s)) := by (unfold goodState; rw [q1, q2, q3, decide_eq_true (show s.Told.length ≤ 60 by omega)]; simp)
 refine B9 (A3 (A3 (A2 ?_)))
 refine A1 rfl (B2 1 rfl D6 rfl J9 (A0 rfl) rfl) ?_
 refine A1 rfl (B0 0 rfl (A0 rfl) rfl L3 rfl) ?_
 refine A1 rfl (E4 rfl F1 (A0 rfl)) ?_
 refine A1 rfl (C3 rfl B3) ?_
 refine A4 (C5 ?_)
 refine G0 [(1, _), (32, _), (33, _)] _ (fun (i : Nat) => i ≤ s.Cells.length ∧ (s.Cells.all fun c => decide (lastTime s.Cells c.Key ≤ s.Floor)) = ((s.Cells.drop i).all fun c => decide (lastTime s.Cells c.Key ≤ s.Floor))) (fun (i : Nat) => []) (fun (i : Nat) => [(34, AV.int i)]) (fun (i : Nat) => s.Cells.length - i) (0) ?_ (G1 ⟨rfl, rfl, rfl, rfl, trivial⟩) ?_
 ·exact ⟨Nat.zero_le _, rfl⟩
 intro i hinv
 refine A3 (A2 ?_)
 refine A1 rfl (F8 rfl (A0 rfl) (A0 rfl)) ?_
 refine A4 (A3 ?_)
 refine B8 (A0 rfl) ?_ ?_
 ·intro h35
  have k35 := of_decide_eq_true h35; try simp only [A6] at k35
  have hlt : i < s.Cells.length := by omega
  obtain ⟨c, hx⟩ := get_some hlt
  refine B9 (A3 (C5 (A3 (A2 ?_))))
  refine A1 rfl (H8 rfl F1 E8 (A0 rfl) (A0 rfl) hx (by first | omega | (simp only [D1, B1, szR] at *; omega))) ?_
  refine A1 rfl (G8 rfl (A0 rfl) L2 E8) ?_
  refine H4 rfl rfl rfl rfl Tryz.zeroValue125 rfl ?_
  intro b4
  refine H1 0 rfl rfl rfl (A0 rfl) (A0 rfl) (I6 _) rfl E8 rfl ?_
  refine A4 (A3 ?_)
  refine H5 (by kernel_rfl) (by kernel_rfl) rfl ?_
  refine B4 rfl rfl (B2 1 rfl D6 rfl J9 (A0 rfl) rfl) ?_
  refine B4 rfl rfl (B0 1 rfl (A0 rfl) rfl L3 rfl) ?_
  refine B4 rfl rfl (B2 0 rfl F6 rfl D2 (A0 rfl) rfl) ?_
  refine B4 rfl rfl (B0 0 rfl (A0 rfl) rfl E5 rfl) ?_
  refine B4 rfl rfl (D4 rfl Tryz.call92 rfl (k6 _ _ (by first | assumption | exact Q2 (by assumption)) (by first | assumption | omega)) (A9 (A0 rfl) (A9 (A0 rfl) C6))) ?_
  refine B4 rfl rfl (B2 0 rfl D6 rfl C2 (A0 rfl) rfl) ?_
  refine B4 rfl rfl (B0 1 rfl (A0 rfl) rfl D0 rfl) ?_
  refine B4 rfl rfl (P8 rfl (A0 rfl) (A0 rfl)) ?_
  refine M6 ?_
  refine B8 (A0 rfl) ?_ ?_
  ·intro h45
   have k45 := of_decide_eq_true h45; try simp only [A6] at k45
   have hfin : goodState s = false := by (rw [hgs, hinv.2, drop_some hx, List.all_cons, decide_eq_false (show ¬ lastTime s.Cells c.Key ≤ s.Floor by omega)]; rfl)
   refine A3 (A2 ?_)
   refine A1 rfl (A8 rfl D8) ?_
   refine A4 ?_
   refine B7 ?_
   exact D7 rfl (B6 rfl (by exact congrArg AV.bool hfin.symm))
  intro h45
  have k45 := of_decide_eq_false h45; try simp only [A6] at k45
  refine B9 (A2 ?_)
  refine A1 rfl (G6 rfl (A0 rfl) B3 (by first | omega | (simp only [D1, B1, szR] at *; omega))) ?_
  refine A5 rfl ?_
  refine A4 ?_
  refine G9 i (i + 1) ?_ ?_ (N0 1 ⟨rfl, rfl, rfl, rfl, trivial⟩)
  ·exact ⟨by omega, by rw [hinv.2, drop_some hx, List.all_cons, decide_eq_true (show lastTime s.Cells c.Key ≤ s.Floor by omega)]; rfl⟩
  omega
 intro h35
 have k35 := of_decide_eq_false h35; try simp only [A6] at k35
 have hge : s.Cells.length ≤ i := by omega
 have hgs2 : goodState s = allB s.Told.length (toldAt s) := by (rw [hgs, hinv.2, List.drop_eq_nil_of_le hge]; rfl)
 refine F3 ?_
 refine A3 (A3 (A2 ?_))
 refine A1 rfl (B2 3 rfl D6 rfl N7 (A0 rfl) rfl) ?_
 refine A1 rfl (B0 0 rfl (A0 rfl) rfl Q7 rfl) ?_
 refine A1 rfl (E4 rfl J1 (A0 rfl)) ?_
 refine A1 rfl (C3 rfl B3) ?_
 refine A4 (C5 ?_)
 refine G0 [(1, _), (48, _), (49, _)] _ (fun (q : Nat) => q ≤ s.Told.length ∧ ∀ j, j < q → toldAt s j = true) (fun (q : Nat) => []) (fun (q : Nat) => [(50, AV.int q)]) (fun (q : Nat) => s.Told.length - q) (0) ?_ (G1 ⟨rfl, rfl, rfl, rfl, trivial⟩) ?_
 ·exact ⟨Nat.zero_le _, fun j hj => by omega⟩
 intro q hinv
 refine A3 (A2 ?_)
 refine A1 rfl (F8 rfl (A0 rfl) (A0 rfl)) ?_
 refine A4 (A3 ?_)
 refine B8 (A0 rfl) ?_ ?_
 ·intro h51
  have k51 := of_decide_eq_true h51; try simp only [A6] at k51
  have hlt : q < s.Told.length := by omega
  obtain ⟨t, hx⟩ := get_some hlt
  obtain ⟨y, hy⟩ := get_some (show q - 1 < s.Told.length by omega)
  refine B9 (A3 (C5 (A3 (A2 ?_))))
  refine A5 rfl ?_
  refine A1 rfl (H8 rfl J1 J6 (A0 rfl) (A0 rfl) hx (by first | omega | (simp only [D1, B1, szR] at *; omega))) ?_
  refine A1 rfl (G8 rfl (A0 rfl) T0 J6) ?_
  refine H4 rfl rfl rfl rfl Tryz.zeroValue144 rfl ?_
  intro b6
  refine B5 rfl ?_
  refine H1 0 rfl rfl rfl (A0 rfl) (A0 rfl) (I6 _) rfl J6 rfl ?_
  refine A4 (A3 (A2 ?_))
  refine A1 rfl (B2 1 rfl G5 rfl G7 (A0 rfl) rfl) ?_
  refine A1 rfl (B0 0 rfl (A0 rfl) rfl H9 rfl) ?_
  refine A5 rfl ?_
  refine C4 rfl (fun hc => B2 2 rfl G5 rfl C2 (A0 rfl) rfl) ?_
  refine C4 rfl (fun hc => B0 0 rfl (A7 rfl hc) rfl D0 rfl) ?_
  refine C4 rfl (fun hc => B2 0 rfl D6 rfl C2 (A0 rfl) rfl) ?_
  refine C4 rfl (fun hc => B0 1 rfl (A7 rfl hc) rfl D0 rfl) ?_
  refine C4 rfl (fun hc => D4 rfl Tryz.call82 rfl (Q6 _ _ _) (A9 (A7 rfl hc) (A9 B3 (A9 (A7 rfl hc) C6)))) ?_
  refine A1 rfl (G4 rfl (A0 rfl) (E9 rfl)) ?_
  refine A5 rfl ?_
  refine I0 rfl (fun hc => B2 1 rfl G5 rfl G7 (A0 rfl) rfl) ?_
  refine I0 rfl (fun hc => B0 0 rfl (A7 rfl hc) rfl H9 rfl) ?_
  refine I0 rfl (fun hc => I3 rfl (A7 rfl hc)) ?_
  refine I0 rfl (fun hc => C3 rfl (A7 rfl hc)) ?_
  refine F9 rfl rfl (C9 rfl rfl rfl) (fun hc => B2 2 rfl G5 rfl C2 (A0 rfl) rfl) ?_
  refine F9 rfl rfl (C9 rfl rfl rfl) (fun hc => B0 0 rfl (A7 rfl hc) rfl D0 rfl) ?_
  refine F9 rfl rfl (C9 rfl rfl rfl) (fun hc => N1 rfl (A7 rfl hc) B3) ?_
  refine I0 rfl (fun hc => G4 rfl (A7 rfl hc) (K4 rfl hc)) ?_
  refine A1 rfl (M5 rfl (A0 rfl) (E9 rfl)) ?_
  refine B5 rfl ?_
  refine A4 (A3 (A3 ?_))
  refine H5 (by kernel_rfl) (by kernel_rfl) rfl ?_
  refine B4 rfl rfl (B2 0 rfl G5 rfl C2 (A0 rfl) rfl) ?_
  refine B4 rfl rfl (B0 0 rfl (A0 rfl) rfl D0 rfl) ?_
  refine B4 rfl rfl (D4 rfl Tryz.call93 rfl (Y7 _) (A9 (A0 rfl) C6)) ?_
  refine B4 rfl rfl (I3 rfl (A0 rfl)) ?_
  refine B4 rfl rfl (C3 rfl (A0 rfl)) ?_
  refine D3 rfl (F2 rfl rfl rfl) (fun hc => C3 rfl (A0 rfl)) ?_
  refine D3 rfl (F2 rfl rfl rfl) (fun hc => I3 rfl (A7 rfl hc)) ?_
  refine B4 rfl rfl (M5 rfl (A0 rfl) (E9 rfl)) ?_
  refine B4 rfl rfl (C3 rfl (A0 rfl)) ?_
  refine D3 rfl (F2 rfl rfl rfl) (fun hc => C3 rfl (A0 rfl)) ?_
  refine D3 rfl (F2 rfl rfl rfl) (fun hc => P8 rfl (A7 rfl hc) B3) ?_
  refine D3 rfl (F2 rfl rfl rfl) (fun hc => C3 rfl (A7 rfl hc)) ?_
  refine D3 rfl (C9 rfl rfl rfl) (fun hc => B2 0 rfl G5 rfl C2 (A0 rfl) rfl) ?_
  refine D3 rfl (C9 rfl rfl rfl) (fun hc => B0 0 rfl (A7 rfl hc) rfl D0 rfl) ?_
  refine D3 rfl (C9 rfl rfl rfl) (fun hc => B2 3 rfl D6 rfl N7 (A0 rfl) rfl) ?_
  refine D3 rfl (C9 rfl rfl rfl) (fun hc => B0 1 rfl (A7 rfl hc) rfl Q7 rfl) ?_
  refine D3 rfl (C9 rfl rfl rfl) (fun hc => C3 rfl (A0 rfl)) ?_
  refine D3 rfl (C9 rfl rfl rfl) (fun hc => L1 rfl (A7 rfl hc) B3 (by first | omega | ((try simp only [D1, B1, szR] at *); omega) | (have hc2 := hc; simp only [L4, beq_iff_eq, bne_iff_ne, A6, G2] at hc2; omega))) ?_
  refine D3 rfl (C9 rfl rfl rfl) (fun hc => H8 rfl J1 J6 (A7 rfl hc) (A7 rfl hc) hy (by first | omega | ((try simp only [D1, B1, szR] at *); omega) | (have hc2 := hc; simp only [L4, beq_iff_eq, bne_iff_ne, A6, G2] at hc2; omega))) ?_
  refine D3 rfl (C9 rfl rfl rfl) (fun hc => P9 rfl G5 rfl C2 (A7 rfl hc) rfl) ?_
  refine D3 rfl (C9 rfl rfl rfl) (fun hc => I9 rfl (A7 rfl hc) D0 rfl) ?_
  refine D3 rfl (C9 rfl rfl rfl) (fun hc => O6 rfl (A7 rfl hc) (A7 rfl hc)) ?_
  refine D3 rfl (F2 rfl rfl rfl) (fun hc => G4 rfl (A7 rfl hc) (K4 rfl hc)) ?_
  refine B4 rfl rfl (M5 rfl (A0 rfl) (E9 rfl)) ?_
  refine M6 ?_
  refine B8 (A0 rfl) ?_ ?_
  ·intro h97
   have hfin : goodState s = false := by (rw [hgs2]; exact Q0 hlt (by rw [e6 hx hy, h97]; rfl))
   refine A3 (A2 ?_)
   refine A1 rfl (A8 rfl D8) ?_
   refine A4 ?_
   refine B7 ?_
   exact D7 rfl (B6 rfl (by exact congrArg AV.bool hfin.symm))
  intro h97
  refine B9 (A3 (A2 ?_))
  refine A1 rfl (M0 1 rfl (A0 rfl) rfl L0 I1 rfl) ?_
  refine A1 rfl (B2 0 rfl G5 rfl C2 (A0 rfl) rfl) ?_
  refine A1 rfl (B0 0 rfl (A0 rfl) rfl D0 rfl) ?_
  refine A1 rfl (D4 rfl Tryz.call94 rfl (AE4 _ _ (by first | assumption | omega)) (A9 (A0 rfl) (A9 (A0 rfl) C6))) ?_
  refine A5 rfl ?_
  refine A1 rfl (K8 rfl (A0 rfl) rfl) ?_
  refine A1 rfl (K8 rfl (A0 rfl) rfl) ?_
  refine B5 rfl ?_
  refine B5 rfl ?_
  refine A4 (A3 (A2 ?_))
  refine A5 rfl ?_
  refine A4 ?_
  refine B8 (A0 rfl) ?_ ?_
  ·intro h105
   have hfin : goodState s = false := by (rw [hgs2]; exact Q0 hlt (by rw [e6 hx hy, ← AO8 hsrt, h105]; simp))
   refine A3 (A2 ?_)
   refine A1 rfl (A8 rfl D8) ?_
   refine A4 ?_
   refine B7 ?_
   exact D7 rfl (B6 rfl (by exact congrArg AV.bool hfin.symm))
  intro h105
  refine B9 (A2 ?_)
  refine A1 rfl (G6 rfl (A0 rfl) B3 (by first | omega | (simp only [D1, B1, szR] at *; omega))) ?_
  refine A5 rfl ?_
  refine A4 ?_
  refine G9 q (q + 1) ?_ ?_ (N0 1 ⟨rfl, rfl, rfl, rfl, trivial⟩)
  ·exact ⟨by omega, fun j hj => if hji : j < q then hinv.2 j hji else (by have e : j = q := (by omega); subst e; rw [e6 hx hy, h97, ← AO8 hsrt, h105]; rfl)⟩
  omega
 intro h51
 have k51 := of_decide_eq_false h51; try simp only [A6] at k51
 have hge : s.Told.length ≤ q := by omega
 have hfin : goodState s = true := by (rw [hgs2]; exact V3.2 fun j hj => hinv.2 j (by omega))
 refine F3 ?_
 refine A3 (A2 ?_)
 refine A1 rfl (A8 rfl D8) ?_
 refine A4 ?_
 refine B7 ?_
 exact D7 rfl (B6 rfl (by exact congrArg AV.bool hfin.symm))
end Go.Proofs.YtkegepoihkhihaaGreat

namespace Go.Proofs.YtkegepoihkhihaaGreat
open Go Go.AV Go.M
attribute [local irreducible] OpW OpA OpS AWP FSpec ESpec GSpec OpE RetOk RetOkG RvDen Le Ev GuardIs
def TRec.ow (c : TRec) (x : Value × Value) : List Own := [.arr x.1 9 1 (c.Reads.map (fun x => [AV.str x])), .arr x.2 101 3 (c.Writes.map TWrite.cs)]
def TPlaces.ow (c : TPlaces) (x : Value × Value) : List Own := [.arr x.1 9 1 (c.Cuts.map (fun x => [AV.str x])), .arr x.2 3 1 (c.Groups.map (fun x => [AV.int x]))]
def TMove.ow (c : TMove) (x : Value × Value) : List Own := [.arr x.1 101 3 (c.From.map TWrite.cs), .arr x.2 101 3 (c.To.map TWrite.cs)]
end Go.Proofs.YtkegepoihkhihaaGreat

namespace Go.AV
section
variable {T X : Type} {cs : T → List AV} {ocs : T → X → List AV} {ow : T → X → List Own}
end
end Go.AV
namespace Go.Proofs.YtkegepoihkhihaaGreat
open Go Go.AV Go.M
attribute [local irreducible] OpW OpA OpS AWP FSpec ESpec GSpec OpE RetOk RetOkG RvDen Le Ev GuardIs SrcIs
end Go.Proofs.YtkegepoihkhihaaGreat

namespace Go.Proofs.YtkegepoihkhihaaGreat
open Go Go.AV Go.M
attribute [local irreducible] OpW OpA OpS AWP FSpec ESpec GSpec OpE RetOk RetOkG RvDen Le Ev GuardIs SrcIs
end Go.Proofs.YtkegepoihkhihaaGreat

set_option maxHeartbeats 4000000
namespace Go.Proofs.YtkegepoihkhihaaGreat
open Go Go.AV Go.M
attribute [local irreducible] OpW OpA OpS AWP FSpec ESpec GSpec OpE RetOk RetOkG RvDen Le Ev GuardIs SrcIs
end Go.Proofs.YtkegepoihkhihaaGreat

namespace Go.AV
section
variable {P : Program} {G : Nat → Prop} {n : Nat} {own : List Own} {env : List (Nat × AV)} {fn : Func}
theorem AU6 {sel : List Own} {cs : List AV} {sz : Nat} (j : Nat) (h : cs[j]? = some AV.nils) : LendC sel cs (cs.set j (AV.list sz [])) := ⟨by rw [List.length_set], fun i x y hx hy => by
  by_cases e : j = i
  · subst e
    rw [List.getElem?_set_self (List.getElem?_eq_some_iff.1 h).1] at hy
    rw [h] at hx
    injection hx with hx; injection hy with hy; subst hx; subst hy
    exact lt_nils
  · rw [List.getElem?_set_ne e, hx] at hy
    injection hy with hy; subst hy; exact AN9⟩
theorem p4 {y : AV} (i j sz : Nat) {b : Nat} {t : TypeId} {cs : List AV} (hi : own[i]? = some (.box b t cs)) (hj : cs[j]? = some AV.nils)
    (k : RetOk P (fun _ => False) n fn ⟨own.set i (.box b t (cs.set j (AV.list sz []))), env⟩ y) : RetOk P (fun _ => False) n fn ⟨own, env⟩ y := fun w0 R0 R a w hs => by
  have hle : Le (fun _ => False) n ⟨own, env⟩ ⟨own.set i (.box b t (cs.set j (AV.list sz []))), env⟩ := le_sealO [] i (.box b t (cs.set j (AV.list sz []))) rfl hi ⟨rfl, rfl, AU6 j hj⟩ AU1
  obtain ⟨R1, h1, h2⟩ := hle w0 R0 R a w hs
  obtain ⟨v, R2, h3, h4, h5, h6⟩ := k w0 R0 R1 a w h2
  exact ⟨v, R2, h3, h4, h1.trans h5, h6⟩
end
end Go.AV

set_option maxHeartbeats 1000000
namespace Go.M
open Go.AV
end Go.M
namespace Go.Proofs.YtkegepoihkhihaaGreat
open Go Go.AV Go.M
attribute [local irreducible] OpW OpA OpS AWP FSpec ESpec GSpec OpE RetOk RetOkG RvDen Le Ev GuardIs SrcIs Int.tmod Int.tdiv IntKind.wrap
end Go.Proofs.YtkegepoihkhihaaGreat

namespace Go.M
open Go.AV
def settled (s : TState) : Int := s.Held.foldl (fun o h => min o (h.Time - 1)) s.Floor
structure Keeps (s s' : TState) : Prop where
  floor : s.Floor ≤ s'.Floor
  told : ∀ t ∈ s.Told, t ∈ s'.Told
  tlen : s.Told.length ≤ s'.Told.length
  settled : settled s ≤ settled s'
  cells : ∀ a, a ≤ M.settled s → cellsAt s'.Cells a = cellsAt s.Cells a
theorem Keeps.trans {a b c : TState} (h : Keeps a b) (k : Keeps b c) : Keeps a c :=
  ⟨Int.le_trans h.floor k.floor, fun t ht => k.told t (h.told t ht), Nat.le_trans h.tlen k.tlen, Int.le_trans h.settled k.settled, fun x hx => (k.cells x (Int.le_trans hx h.settled)).trans (h.cells x hx)⟩
end Go.M

namespace Go.M
open Go.AV
theorem AE5 {r : TRec} (h : goodRec r = true) : r.size ≤ 400 := by
  have g := goodR h
  have h1 : sizeL (fun x : Str => x.length) r.Reads ≤ r.Reads.length * 13 := m5 fun x hx => t6 (g.reads.2 x hx)
  have h2 : sizeL TWrite.size r.Writes ≤ r.Writes.length * 37 := m5 (f := TWrite.size) fun x hx => by
    have := g.writes.2 x hx
    have k1 := t6 this.1
    have k2 := AQ1 this.2.1
    show x.Key.length + x.Val.length ≤ 36
    omega
  have h3 : r.size = sizeL (fun x : Str => x.length) r.Reads + sizeL TWrite.size r.Writes := rfl
  have := g.reads.1
  have := g.writes.1
  omega
def zHeld : THeld := ⟨0, 0, 0, [], []⟩
def settledR (s : TState) : Int × Bool := if goodState s = true then (settled s, true) else (0, false)
theorem n2 {l : List THeld} {i : Nat} {h : THeld} {o : Int} (hx : l[i]? = some h) : (l.take (i + 1)).foldl (fun o h => min o (h.Time - 1)) o = (if h.Time - 1 < (l.take i).foldl (fun o h => min o (h.Time - 1)) o then h.Time - 1 else (l.take i).foldl (fun o h => min o (h.Time - 1)) o) := by
  rw [List.take_add_one, hx, List.foldl_append]
  show min _ (h.Time - 1) = _
  split <;> omega
theorem u7 {s : TState} (g : GS s) {h : THeld} (hm : h ∈ s.Held) : 1 ≤ h.Time ∧ h.Time ≤ 100000 ∧ adj wLess h.Writes = true := by
  obtain ⟨g1, g2, g3⟩ := g.good h hm
  have h1 := g1
  unfold goodRec hRec at h1
  rw [if_pos rfl] at h1
  unfold good1 isTime within at h1
  simp only [Bool.and_eq_true, decide_eq_true_eq] at h1
  exact ⟨by omega, by omega, s0 g1⟩
end Go.M
namespace Go.Proofs.YtkegepoihkhihaaGreat
open Go Go.AV Go.M
attribute [local irreducible] OpW OpA OpS AWP FSpec ESpec GSpec OpE RetOk RetOkG RvDen Le Ev GuardIs SrcIs Int.tmod Int.tdiv IntKind.wrap
end Go.Proofs.YtkegepoihkhihaaGreat

namespace Go.M
open Go.AV
end Go.M
namespace Go.Proofs.YtkegepoihkhihaaGreat
open Go Go.AV Go.M
attribute [local irreducible] OpW OpA OpS AWP FSpec ESpec GSpec OpE RetOk RetOkG RvDen Le Ev GuardIs SrcIs Int.tmod Int.tdiv IntKind.wrap
theorem AJ1 (s : TState) (hg : goodState s = true) : FSpec Tryz.prog 85 [AV.agg s.cs] (AV.int (settled s)) := by
 have g := j7.1 hg
 have hhl := g.hlen
 refine C1 Tryz.func85 rfl Tryz.ntmps85 rfl ?_
 refine A3 (A2 ?_)
 refine I2 rfl rfl rfl rfl (A0 rfl) ?_
 intro b1
 refine A1 rfl (A8 rfl B3) ?_
 refine A4 (A3 (A2 ?_))
 refine A1 rfl (B2 0 rfl D6 rfl C2 (A0 rfl) rfl) ?_
 refine A1 rfl (B0 0 rfl (A0 rfl) rfl D0 rfl) ?_
 refine B5 rfl ?_
 refine A4 (A3 (A3 (A2 ?_)))
 refine A1 rfl (B2 2 rfl D6 rfl K6 (A0 rfl) rfl) ?_
 refine A1 rfl (B0 0 rfl (A0 rfl) rfl L7 rfl) ?_
 refine A1 rfl (E4 rfl F0 (A0 rfl)) ?_
 refine A1 rfl (C3 rfl B3) ?_
 refine A4 (C5 ?_)
 refine G0 [(2, _), (9, _), (10, _)] _ (fun (i : Nat) => i ≤ s.Held.length) (fun (i : Nat) => []) (fun (i : Nat) => [(3, AV.int ((s.Held.take i).foldl (fun o h => min o (h.Time - 1)) s.Floor)), (11, AV.int i)]) (fun (i : Nat) => s.Held.length - i) (0) ?_ (G1 ⟨rfl, rfl, rfl, rfl, rfl, trivial⟩) ?_
 ·exact Nat.zero_le _
 intro i hinv
 refine A3 (A2 ?_)
 refine A1 rfl (F8 rfl (A0 rfl) (A0 rfl)) ?_
 refine A4 (A3 ?_)
 refine B8 (A0 rfl) ?_ ?_
 ·intro h12
  have k12 := of_decide_eq_true h12; try simp only [A6] at k12
  have hlt : i < s.Held.length := by omega
  obtain ⟨h, hx⟩ := get_some hlt
  obtain ⟨q1, q2, q3⟩ := u7 g (H0 hx)
  refine B9 (A3 (C5 (A3 (A2 ?_))))
  refine A1 rfl (H8 rfl F0 E3 (A0 rfl) (A0 rfl) hx (by first | omega | (simp only [D1, B1, szR] at *; omega))) ?_
  refine A1 rfl (G8 rfl (A0 rfl) I5 E3) ?_
  refine H4 rfl rfl rfl rfl Tryz.zeroValue141 rfl ?_
  intro b5
  refine H1 0 rfl rfl rfl (A0 rfl) (A0 rfl) (I6 _) rfl E3 rfl ?_
  refine A4 (A2 ?_)
  refine A5 rfl ?_
  refine A1 rfl (B2 1 rfl D5 rfl C2 (A0 rfl) rfl) ?_
  refine A1 rfl (B0 0 rfl (A0 rfl) rfl D0 rfl) ?_
  refine A1 rfl (L1 rfl (A0 rfl) B3 (by first | omega | (simp only [D1, B1, szR] at *; omega))) ?_
  refine A1 rfl (w_min rfl (A0 rfl) (A0 rfl)) ?_
  refine B5 rfl ?_
  refine A4 (A2 ?_)
  refine A1 rfl (G6 rfl (A0 rfl) B3 (by first | omega | (simp only [D1, B1, szR] at *; omega))) ?_
  refine A5 rfl ?_
  refine A4 ?_
  refine G9 i (i + 1) ?_ ?_ (N0 1 ⟨congrArg (fun z => some (AV.int z)) (n2 hx).symm, rfl, rfl, rfl, rfl, trivial⟩)
  ·omega
  omega
 intro h12
 have k12 := of_decide_eq_false h12; try simp only [A6] at k12
 have hge : s.Held.length ≤ i := by omega
 rw [List.take_of_length_le hge]
 refine F3 ?_
 refine A3 (A2 ?_)
 refine A5 rfl ?_
 refine B5 rfl ?_
 refine A4 ?_
 refine B7 ?_
 exact D7 rfl (B6 rfl (by rfl))
end Go.Proofs.YtkegepoihkhihaaGreat

namespace Go.Proofs.YtkegepoihkhihaaGreat
open Go Go.AV Go.M
attribute [local irreducible] OpW OpA OpS AWP FSpec ESpec GSpec OpE RetOk RetOkG RvDen Le Ev GuardIs SrcIs Int.tmod Int.tdiv IntKind.wrap
theorem u9 (l : List Str) (hl : l.length ≤ 4194304) : GSpec Tryz.prog 202 [strs l] [] (fun _ : Value => True) (fun v => [.arr v 9 1 (l.map fun s => [AV.str s])]) (fun v => AV.is v) := by
 refine c7 Tryz.func202 rfl Tryz.ntmps202 rfl ?_
 refine A3 (A2 ?_)
 refine A1 rfl (A8 rfl g9) ?_
 refine A4 (A3 (A2 ?_))
 refine V9 rfl rfl rfl rfl C7 D2 ?_
 intro v3
 refine A5 rfl ?_
 refine S0 (by' := 16) 0 rfl rfl rfl rfl C7 Tryz.type9 rfl rfl rfl rfl rfl rfl (A0 rfl) (A0 rfl) rfl (by simp only [f4, A6]; omega) ?_
 intro v5_1
 refine B5 rfl ?_
 refine A4 ?_
 refine B7 ?_
 exact x8 [0] v5_1 (trivial) rfl (by rfl) (x9 rfl (B6 rfl (by rfl)))
theorem v8 (v : Value) (l : List Str) (s : Str) (hs : SrtS l) (hl : l.length ≤ 1000000) : GSpec Tryz.prog 169 [AV.is v, AV.str s] [.arr v 9 1 (l.map fun s => [AV.str s])] (fun _ : Value => True) (fun v' => [.arr v' 9 1 ((putS l s).map fun s => [AV.str s])]) (fun v' => AV.is v') := by
 refine c7 Tryz.func169 rfl Tryz.ntmps169 rfl ?_
 refine A3 (A2 ?_)
 refine A1 rfl (A8 rfl g9) ?_
 refine A4 (A3 (A2 ?_))
 refine A5 rfl ?_
 refine A1 rfl (f8 0 rfl C7 (A0 rfl) rfl) ?_
 refine B5 rfl ?_
 refine A4 (A3 (C5 ?_))
 refine G0 [(0, _), (1, _), (4, _)] _ (fun (k : Nat) => k ≤ l.length ∧ ∀ i y, k ≤ i → l[i]? = some y → Op.bytesLess s y = true) (fun (k : Nat) => []) (fun (k : Nat) => [(5, AV.int k)]) (fun (k : Nat) => k) (l.length) ?_ (G1 ⟨congrArg (fun z => some (AV.int z)) (by rw [A6]), rfl, rfl, rfl, trivial⟩) ?_
 ·exact ⟨Nat.le_refl _, fun i y h1 h2 => by (have := (List.getElem?_eq_some_iff.1 h2).1; omega)⟩
 intro k hinv
 obtain ⟨y, hy0⟩ : ∃ y, 0 < k → l[k - 1]? = some y := by (by_cases h9 : 0 < k; (have h8 := hinv.1; exact ⟨_, fun _ => List.getElem?_eq_getElem (show k - 1 < l.length by omega)⟩); exact ⟨[], fun h8 => absurd h8 h9⟩)
 refine A3 (A3 (A2 ?_))
 refine A5 rfl ?_
 refine A1 rfl (P8 rfl (A0 rfl) B3) ?_
 refine A5 rfl ?_
 refine C4 rfl (fun hc => C3 rfl (A0 rfl)) ?_
 refine C4 rfl (fun hc => C3 rfl (A0 rfl)) ?_
 refine C4 rfl (fun hc => L1 rfl (A7 rfl hc) B3 (by first | omega | ((try simp only [D1, B1, szR] at *); omega) | (have hc2 := hc; simp only [L4, beq_iff_eq, bne_iff_ne, A6, G2] at hc2; omega))) ?_
 refine C4 rfl (fun hc => S7 0 rfl C7 D2 (A7 rfl hc) rfl (A7 rfl hc) (by have := of_decide_eq_true hc; omega) (by have := of_decide_eq_true hc; have := hinv.1; simp only [A6]; omega)) ?_
 refine C4 rfl (fun hc => W3 0 rfl (A7 rfl hc) rfl E5 (d1 (hy0 (by have := of_decide_eq_true hc; omega)) (by have := of_decide_eq_true hc; omega))) ?_
 refine C4 rfl (fun hc => C3 rfl (A0 rfl)) ?_
 refine C4 rfl (fun hc => w_sgtr rfl (A7 rfl hc) (A7 rfl hc)) ?_
 refine A1 rfl (G4 rfl (A0 rfl) (E9 rfl)) ?_
 refine A4 ?_
 refine B8 (A0 rfl) ?_ ?_
 ·intro h19
  have hkt : 0 < k ∧ Op.bytesLess s y = true := by (rw [AO3] at h19; simpa using h19)
  refine B9 (C5 (A2 ?_))
  refine A5 rfl ?_
  refine A1 rfl (L1 rfl (A0 rfl) B3 (by first | omega | (simp only [D1, B1, szR] at *; omega))) ?_
  refine B5 rfl ?_
  refine A4 ?_
  refine c1 ?_
  refine G9 k (k - 1) ?_ ?_ (G1 ⟨congrArg (fun z => some (AV.int z)) (by omega), rfl, rfl, rfl, trivial⟩)
  ·exact ⟨by omega, fun i z hi hz => if e : k ≤ i then hinv.2 i z e hz else (by have e2 : i = k - 1 := (by omega); subst e2; rw [hy0 hkt.1] at hz; injection hz with hz; subst hz; exact hkt.2)⟩
  omega
 intro h19
 have hng : 0 < k → Op.bytesLess s y = false := fun h => by (rw [AO3] at h19; simpa [h] using h19)
 refine F3 ?_
 refine A3 (A3 (A2 ?_))
 refine A5 rfl ?_
 refine A1 rfl (P8 rfl (A0 rfl) B3) ?_
 refine A5 rfl ?_
 refine C4 rfl (fun hc => C3 rfl (A0 rfl)) ?_
 refine C4 rfl (fun hc => C3 rfl (A0 rfl)) ?_
 refine C4 rfl (fun hc => L1 rfl (A7 rfl hc) B3 (by first | omega | ((try simp only [D1, B1, szR] at *); omega) | (have hc2 := hc; simp only [L4, beq_iff_eq, bne_iff_ne, A6, G2] at hc2; omega))) ?_
 refine C4 rfl (fun hc => S7 0 rfl C7 D2 (A7 rfl hc) rfl (A7 rfl hc) (by have := of_decide_eq_true hc; omega) (by have := of_decide_eq_true hc; have := hinv.1; simp only [A6]; omega)) ?_
 refine C4 rfl (fun hc => W3 0 rfl (A7 rfl hc) rfl E5 (d1 (hy0 (by have := of_decide_eq_true hc; omega)) (by have := of_decide_eq_true hc; omega))) ?_
 refine C4 rfl (fun hc => C3 rfl (A0 rfl)) ?_
 refine C4 rfl (fun hc => c2 rfl (A7 rfl hc) (A7 rfl hc)) ?_
 refine A1 rfl (G4 rfl (A0 rfl) (E9 rfl)) ?_
 refine A4 ?_
 refine B8 (A0 rfl) ?_ ?_
 ·intro h32
  have hke : 0 < k ∧ y = s := by simpa using h32
  rw [t7 hs (by rw [← hke.2]; exact hy0 hke.1)]
  refine A3 (A2 ?_)
  refine A5 rfl ?_
  refine B5 rfl ?_
  refine A4 ?_
  refine B7 ?_
  exact x8 [0] v (trivial) rfl (by first | rfl | exact congrArg (fun z => [Own.arr _ 9 1 z]) (by show List.map (fun s => [AV.str s]) (l.take k ++ s :: l.drop k) = (List.map (fun s => [AV.str s]) (l.take k) ++ [[AV.str s]]) ++ List.map (fun s => [AV.str s]) (l.drop k); simp)) (x9 rfl (B6 rfl (by rfl)))
 intro h32
 have hne : 0 < k → y ≠ s := fun h e => by simp [h, e] at h32
 rw [AC1 hs hinv.1 hinv.2 (fun z hz hzz => by rw [hy0 hz] at hzz; injection hzz with hzz; subst hzz; exact ⟨hng hz, hne hz⟩)]
 refine B9 (A3 (A2 ?_))
 refine A5 rfl ?_
 refine A5 rfl ?_
 refine A1 rfl (w_alo 0 rfl C7 D2 (A0 rfl) rfl (A0 rfl) (by omega) (by simp only [A6]; omega)) ?_
 refine AB4 [] rfl rfl rfl rfl Tryz.call202 rfl (u9 (l.drop k) (by rw [List.length_drop]; omega)) rfl (R9 (evb_lt (A0 rfl) (lt_tailm (H0 (i := 0) rfl) (by omega) (by omega))) X5) (by first | exact K1 | (intro _; exact K1) | (intro _; first | exact F4 _ | exact D9 _ _ | exact E1 _ | exact E2 _ | exact E7) | (intro _; refine X7 ?_; (repeat (first | exact E0 | (refine C0 (by first | (first | exact F4 _ | exact D9 _ _ | exact E1 _ | exact E2 _ | exact E7) | (refine Q3 ?_; (repeat (first | exact E0 | (refine C0 (by first | exact F4 _ | exact D9 _ _ | exact E1 _ | exact E2 _ | exact E7) ?_))))) ?_))); done) | (intro _; refine Q3 ?_; (repeat (first | exact E0 | (refine C0 (by first | exact F4 _ | exact D9 _ _ | exact E1 _ | exact E2 _ | exact E7) ?_))); done) | ((repeat (first | exact K1 | (refine J3 (P1 ?_) ?_; (repeat (first | exact E0 | (refine C0 (by first | exact F4 _ | exact D9 _ _ | exact E1 _ | exact E2 _ | exact E7) ?_)))) | (refine J3 (P2 ?_) ?_; (repeat (first | exact P3 | (refine P5 (fun _ => ?_); (first | exact TWrite.flat _ | exact TFeedItem.flat _ | exact TIdx.flat _ | exact TVer.flat _ | (repeat (first | exact E0 | (refine C0 (by first | exact F4 _ | exact D9 _ _ | exact E1 _ | exact E2 _ | exact E7) ?_))))) | (refine P6 ?_; (first | exact TWrite.flat _ | exact TFeedItem.flat _ | exact TIdx.flat _ | exact TVer.flat _ | (repeat (first | exact E0 | (refine C0 (by first | exact F4 _ | exact D9 _ _ | exact E1 _ | exact E2 _ | exact E7) ?_))))) | (refine N8 ?_ ?_; (first | exact TWrite.flat _ | exact TFeedItem.flat _ | exact TIdx.flat _ | exact TVer.flat _ | (repeat (first | exact E0 | (refine C0 (by first | exact F4 _ | exact D9 _ _ | exact E1 _ | exact E2 _ | exact E7) ?_))))) | refine P4 ?_ ?_))))); done) | (intro _; (repeat (first | exact K1 | (refine J3 (P1 ?_) ?_; (repeat (first | exact E0 | (refine C0 (by first | exact F4 _ | exact D9 _ _ | exact E1 _ | exact E2 _ | exact E7) ?_)))) | (refine J3 (P2 ?_) ?_; (repeat (first | exact P3 | (refine P5 (fun _ => ?_); (first | exact TWrite.flat _ | exact TFeedItem.flat _ | exact TIdx.flat _ | exact TVer.flat _ | (repeat (first | exact E0 | (refine C0 (by first | exact F4 _ | exact D9 _ _ | exact E1 _ | exact E2 _ | exact E7) ?_))))) | (refine P6 ?_; (first | exact TWrite.flat _ | exact TFeedItem.flat _ | exact TIdx.flat _ | exact TVer.flat _ | (repeat (first | exact E0 | (refine C0 (by first | exact F4 _ | exact D9 _ _ | exact E1 _ | exact E2 _ | exact E7) ?_))))) | (refine N8 ?_ ?_; (first | exact TWrite.flat _ | exact TFeedItem.flat _ | exact TIdx.flat _ | exact TVer.flat _ | (repeat (first | exact E0 | (refine C0 (by first | exact F4 _ | exact D9 _ _ | exact E1 _ | exact E2 _ | exact E7) ?_))))) | refine P4 ?_ ?_))))); done)) (by first | exact K1 | (intro _; exact K1) | (intro _; first | exact F4 _ | exact D9 _ _ | exact E1 _ | exact E2 _ | exact E7) | (intro _; refine X7 ?_; (repeat (first | exact E0 | (refine C0 (by first | (first | exact F4 _ | exact D9 _ _ | exact E1 _ | exact E2 _ | exact E7) | (refine Q3 ?_; (repeat (first | exact E0 | (refine C0 (by first | exact F4 _ | exact D9 _ _ | exact E1 _ | exact E2 _ | exact E7) ?_))))) ?_))); done) | (intro _; refine Q3 ?_; (repeat (first | exact E0 | (refine C0 (by first | exact F4 _ | exact D9 _ _ | exact E1 _ | exact E2 _ | exact E7) ?_))); done) | ((repeat (first | exact K1 | (refine J3 (P1 ?_) ?_; (repeat (first | exact E0 | (refine C0 (by first | exact F4 _ | exact D9 _ _ | exact E1 _ | exact E2 _ | exact E7) ?_)))) | (refine J3 (P2 ?_) ?_; (repeat (first | exact P3 | (refine P5 (fun _ => ?_); (first | exact TWrite.flat _ | exact TFeedItem.flat _ | exact TIdx.flat _ | exact TVer.flat _ | (repeat (first | exact E0 | (refine C0 (by first | exact F4 _ | exact D9 _ _ | exact E1 _ | exact E2 _ | exact E7) ?_))))) | (refine P6 ?_; (first | exact TWrite.flat _ | exact TFeedItem.flat _ | exact TIdx.flat _ | exact TVer.flat _ | (repeat (first | exact E0 | (refine C0 (by first | exact F4 _ | exact D9 _ _ | exact E1 _ | exact E2 _ | exact E7) ?_))))) | (refine N8 ?_ ?_; (first | exact TWrite.flat _ | exact TFeedItem.flat _ | exact TIdx.flat _ | exact TVer.flat _ | (repeat (first | exact E0 | (refine C0 (by first | exact F4 _ | exact D9 _ _ | exact E1 _ | exact E2 _ | exact E7) ?_))))) | refine P4 ?_ ?_))))); done) | (intro _; (repeat (first | exact K1 | (refine J3 (P1 ?_) ?_; (repeat (first | exact E0 | (refine C0 (by first | exact F4 _ | exact D9 _ _ | exact E1 _ | exact E2 _ | exact E7) ?_)))) | (refine J3 (P2 ?_) ?_; (repeat (first | exact P3 | (refine P5 (fun _ => ?_); (first | exact TWrite.flat _ | exact TFeedItem.flat _ | exact TIdx.flat _ | exact TVer.flat _ | (repeat (first | exact E0 | (refine C0 (by first | exact F4 _ | exact D9 _ _ | exact E1 _ | exact E2 _ | exact E7) ?_))))) | (refine P6 ?_; (first | exact TWrite.flat _ | exact TFeedItem.flat _ | exact TIdx.flat _ | exact TVer.flat _ | (repeat (first | exact E0 | (refine C0 (by first | exact F4 _ | exact D9 _ _ | exact E1 _ | exact E2 _ | exact E7) ?_))))) | (refine N8 ?_ ?_; (first | exact TWrite.flat _ | exact TFeedItem.flat _ | exact TIdx.flat _ | exact TVer.flat _ | (repeat (first | exact E0 | (refine C0 (by first | exact F4 _ | exact D9 _ _ | exact E1 _ | exact E2 _ | exact E7) ?_))))) | refine P4 ?_ ?_))))); done)) (by first | exact K1 | (intro _; exact K1) | (intro _; first | exact F4 _ | exact D9 _ _ | exact E1 _ | exact E2 _ | exact E7) | (intro _; refine X7 ?_; (repeat (first | exact E0 | (refine C0 (by first | (first | exact F4 _ | exact D9 _ _ | exact E1 _ | exact E2 _ | exact E7) | (refine Q3 ?_; (repeat (first | exact E0 | (refine C0 (by first | exact F4 _ | exact D9 _ _ | exact E1 _ | exact E2 _ | exact E7) ?_))))) ?_))); done) | (intro _; refine Q3 ?_; (repeat (first | exact E0 | (refine C0 (by first | exact F4 _ | exact D9 _ _ | exact E1 _ | exact E2 _ | exact E7) ?_))); done) | ((repeat (first | exact K1 | (refine J3 (P1 ?_) ?_; (repeat (first | exact E0 | (refine C0 (by first | exact F4 _ | exact D9 _ _ | exact E1 _ | exact E2 _ | exact E7) ?_)))) | (refine J3 (P2 ?_) ?_; (repeat (first | exact P3 | (refine P5 (fun _ => ?_); (first | exact TWrite.flat _ | exact TFeedItem.flat _ | exact TIdx.flat _ | exact TVer.flat _ | (repeat (first | exact E0 | (refine C0 (by first | exact F4 _ | exact D9 _ _ | exact E1 _ | exact E2 _ | exact E7) ?_))))) | (refine P6 ?_; (first | exact TWrite.flat _ | exact TFeedItem.flat _ | exact TIdx.flat _ | exact TVer.flat _ | (repeat (first | exact E0 | (refine C0 (by first | exact F4 _ | exact D9 _ _ | exact E1 _ | exact E2 _ | exact E7) ?_))))) | (refine N8 ?_ ?_; (first | exact TWrite.flat _ | exact TFeedItem.flat _ | exact TIdx.flat _ | exact TVer.flat _ | (repeat (first | exact E0 | (refine C0 (by first | exact F4 _ | exact D9 _ _ | exact E1 _ | exact E2 _ | exact E7) ?_))))) | refine P4 ?_ ?_))))); done) | (intro _; (repeat (first | exact K1 | (refine J3 (P1 ?_) ?_; (repeat (first | exact E0 | (refine C0 (by first | exact F4 _ | exact D9 _ _ | exact E1 _ | exact E2 _ | exact E7) ?_)))) | (refine J3 (P2 ?_) ?_; (repeat (first | exact P3 | (refine P5 (fun _ => ?_); (first | exact TWrite.flat _ | exact TFeedItem.flat _ | exact TIdx.flat _ | exact TVer.flat _ | (repeat (first | exact E0 | (refine C0 (by first | exact F4 _ | exact D9 _ _ | exact E1 _ | exact E2 _ | exact E7) ?_))))) | (refine P6 ?_; (first | exact TWrite.flat _ | exact TFeedItem.flat _ | exact TIdx.flat _ | exact TVer.flat _ | (repeat (first | exact E0 | (refine C0 (by first | exact F4 _ | exact D9 _ _ | exact E1 _ | exact E2 _ | exact E7) ?_))))) | (refine N8 ?_ ?_; (first | exact TWrite.flat _ | exact TFeedItem.flat _ | exact TIdx.flat _ | exact TVer.flat _ | (repeat (first | exact E0 | (refine C0 (by first | exact F4 _ | exact D9 _ _ | exact E1 _ | exact E2 _ | exact E7) ?_))))) | refine P4 ?_ ?_))))); done)) ?_
 intro x37 ok37
 refine B5 rfl ?_
 refine A4 (A3 ?_)
 refine AWP.le (le_sealD [0] 6 rfl rfl (lt_arr (H0 (i := 0) rfl) m0) (gin_cons 0 rfl rfl gin_nil)) ?_
 refine A2 ?_
 refine A5 rfl ?_
 refine A5 rfl ?_
 refine sq_ahi 0 rfl rfl rfl rfl C7 D2 (A0 rfl) rfl (A0 rfl) (by omega) (by simp only [A6]; omega) ?_
 intro v40_1
 rw [Int.toNat_natCast, ← List.map_take]
 refine AB4 [] rfl rfl rfl rfl Tryz.call202 rfl (u9 (l.take k) (by rw [G2]; omega)) rfl (R9 (AN8 0 (A0 rfl) rfl) X5) (by first | exact K1 | (intro _; exact K1) | (intro _; first | exact F4 _ | exact D9 _ _ | exact E1 _ | exact E2 _ | exact E7) | (intro _; refine X7 ?_; (repeat (first | exact E0 | (refine C0 (by first | (first | exact F4 _ | exact D9 _ _ | exact E1 _ | exact E2 _ | exact E7) | (refine Q3 ?_; (repeat (first | exact E0 | (refine C0 (by first | exact F4 _ | exact D9 _ _ | exact E1 _ | exact E2 _ | exact E7) ?_))))) ?_))); done) | (intro _; refine Q3 ?_; (repeat (first | exact E0 | (refine C0 (by first | exact F4 _ | exact D9 _ _ | exact E1 _ | exact E2 _ | exact E7) ?_))); done) | ((repeat (first | exact K1 | (refine J3 (P1 ?_) ?_; (repeat (first | exact E0 | (refine C0 (by first | exact F4 _ | exact D9 _ _ | exact E1 _ | exact E2 _ | exact E7) ?_)))) | (refine J3 (P2 ?_) ?_; (repeat (first | exact P3 | (refine P5 (fun _ => ?_); (first | exact TWrite.flat _ | exact TFeedItem.flat _ | exact TIdx.flat _ | exact TVer.flat _ | (repeat (first | exact E0 | (refine C0 (by first | exact F4 _ | exact D9 _ _ | exact E1 _ | exact E2 _ | exact E7) ?_))))) | (refine P6 ?_; (first | exact TWrite.flat _ | exact TFeedItem.flat _ | exact TIdx.flat _ | exact TVer.flat _ | (repeat (first | exact E0 | (refine C0 (by first | exact F4 _ | exact D9 _ _ | exact E1 _ | exact E2 _ | exact E7) ?_))))) | (refine N8 ?_ ?_; (first | exact TWrite.flat _ | exact TFeedItem.flat _ | exact TIdx.flat _ | exact TVer.flat _ | (repeat (first | exact E0 | (refine C0 (by first | exact F4 _ | exact D9 _ _ | exact E1 _ | exact E2 _ | exact E7) ?_))))) | refine P4 ?_ ?_))))); done) | (intro _; (repeat (first | exact K1 | (refine J3 (P1 ?_) ?_; (repeat (first | exact E0 | (refine C0 (by first | exact F4 _ | exact D9 _ _ | exact E1 _ | exact E2 _ | exact E7) ?_)))) | (refine J3 (P2 ?_) ?_; (repeat (first | exact P3 | (refine P5 (fun _ => ?_); (first | exact TWrite.flat _ | exact TFeedItem.flat _ | exact TIdx.flat _ | exact TVer.flat _ | (repeat (first | exact E0 | (refine C0 (by first | exact F4 _ | exact D9 _ _ | exact E1 _ | exact E2 _ | exact E7) ?_))))) | (refine P6 ?_; (first | exact TWrite.flat _ | exact TFeedItem.flat _ | exact TIdx.flat _ | exact TVer.flat _ | (repeat (first | exact E0 | (refine C0 (by first | exact F4 _ | exact D9 _ _ | exact E1 _ | exact E2 _ | exact E7) ?_))))) | (refine N8 ?_ ?_; (first | exact TWrite.flat _ | exact TFeedItem.flat _ | exact TIdx.flat _ | exact TVer.flat _ | (repeat (first | exact E0 | (refine C0 (by first | exact F4 _ | exact D9 _ _ | exact E1 _ | exact E2 _ | exact E7) ?_))))) | refine P4 ?_ ?_))))); done)) (by first | exact K1 | (intro _; exact K1) | (intro _; first | exact F4 _ | exact D9 _ _ | exact E1 _ | exact E2 _ | exact E7) | (intro _; refine X7 ?_; (repeat (first | exact E0 | (refine C0 (by first | (first | exact F4 _ | exact D9 _ _ | exact E1 _ | exact E2 _ | exact E7) | (refine Q3 ?_; (repeat (first | exact E0 | (refine C0 (by first | exact F4 _ | exact D9 _ _ | exact E1 _ | exact E2 _ | exact E7) ?_))))) ?_))); done) | (intro _; refine Q3 ?_; (repeat (first | exact E0 | (refine C0 (by first | exact F4 _ | exact D9 _ _ | exact E1 _ | exact E2 _ | exact E7) ?_))); done) | ((repeat (first | exact K1 | (refine J3 (P1 ?_) ?_; (repeat (first | exact E0 | (refine C0 (by first | exact F4 _ | exact D9 _ _ | exact E1 _ | exact E2 _ | exact E7) ?_)))) | (refine J3 (P2 ?_) ?_; (repeat (first | exact P3 | (refine P5 (fun _ => ?_); (first | exact TWrite.flat _ | exact TFeedItem.flat _ | exact TIdx.flat _ | exact TVer.flat _ | (repeat (first | exact E0 | (refine C0 (by first | exact F4 _ | exact D9 _ _ | exact E1 _ | exact E2 _ | exact E7) ?_))))) | (refine P6 ?_; (first | exact TWrite.flat _ | exact TFeedItem.flat _ | exact TIdx.flat _ | exact TVer.flat _ | (repeat (first | exact E0 | (refine C0 (by first | exact F4 _ | exact D9 _ _ | exact E1 _ | exact E2 _ | exact E7) ?_))))) | (refine N8 ?_ ?_; (first | exact TWrite.flat _ | exact TFeedItem.flat _ | exact TIdx.flat _ | exact TVer.flat _ | (repeat (first | exact E0 | (refine C0 (by first | exact F4 _ | exact D9 _ _ | exact E1 _ | exact E2 _ | exact E7) ?_))))) | refine P4 ?_ ?_))))); done) | (intro _; (repeat (first | exact K1 | (refine J3 (P1 ?_) ?_; (repeat (first | exact E0 | (refine C0 (by first | exact F4 _ | exact D9 _ _ | exact E1 _ | exact E2 _ | exact E7) ?_)))) | (refine J3 (P2 ?_) ?_; (repeat (first | exact P3 | (refine P5 (fun _ => ?_); (first | exact TWrite.flat _ | exact TFeedItem.flat _ | exact TIdx.flat _ | exact TVer.flat _ | (repeat (first | exact E0 | (refine C0 (by first | exact F4 _ | exact D9 _ _ | exact E1 _ | exact E2 _ | exact E7) ?_))))) | (refine P6 ?_; (first | exact TWrite.flat _ | exact TFeedItem.flat _ | exact TIdx.flat _ | exact TVer.flat _ | (repeat (first | exact E0 | (refine C0 (by first | exact F4 _ | exact D9 _ _ | exact E1 _ | exact E2 _ | exact E7) ?_))))) | (refine N8 ?_ ?_; (first | exact TWrite.flat _ | exact TFeedItem.flat _ | exact TIdx.flat _ | exact TVer.flat _ | (repeat (first | exact E0 | (refine C0 (by first | exact F4 _ | exact D9 _ _ | exact E1 _ | exact E2 _ | exact E7) ?_))))) | refine P4 ?_ ?_))))); done)) (by first | exact K1 | (intro _; exact K1) | (intro _; first | exact F4 _ | exact D9 _ _ | exact E1 _ | exact E2 _ | exact E7) | (intro _; refine X7 ?_; (repeat (first | exact E0 | (refine C0 (by first | (first | exact F4 _ | exact D9 _ _ | exact E1 _ | exact E2 _ | exact E7) | (refine Q3 ?_; (repeat (first | exact E0 | (refine C0 (by first | exact F4 _ | exact D9 _ _ | exact E1 _ | exact E2 _ | exact E7) ?_))))) ?_))); done) | (intro _; refine Q3 ?_; (repeat (first | exact E0 | (refine C0 (by first | exact F4 _ | exact D9 _ _ | exact E1 _ | exact E2 _ | exact E7) ?_))); done) | ((repeat (first | exact K1 | (refine J3 (P1 ?_) ?_; (repeat (first | exact E0 | (refine C0 (by first | exact F4 _ | exact D9 _ _ | exact E1 _ | exact E2 _ | exact E7) ?_)))) | (refine J3 (P2 ?_) ?_; (repeat (first | exact P3 | (refine P5 (fun _ => ?_); (first | exact TWrite.flat _ | exact TFeedItem.flat _ | exact TIdx.flat _ | exact TVer.flat _ | (repeat (first | exact E0 | (refine C0 (by first | exact F4 _ | exact D9 _ _ | exact E1 _ | exact E2 _ | exact E7) ?_))))) | (refine P6 ?_; (first | exact TWrite.flat _ | exact TFeedItem.flat _ | exact TIdx.flat _ | exact TVer.flat _ | (repeat (first | exact E0 | (refine C0 (by first | exact F4 _ | exact D9 _ _ | exact E1 _ | exact E2 _ | exact E7) ?_))))) | (refine N8 ?_ ?_; (first | exact TWrite.flat _ | exact TFeedItem.flat _ | exact TIdx.flat _ | exact TVer.flat _ | (repeat (first | exact E0 | (refine C0 (by first | exact F4 _ | exact D9 _ _ | exact E1 _ | exact E2 _ | exact E7) ?_))))) | refine P4 ?_ ?_))))); done) | (intro _; (repeat (first | exact K1 | (refine J3 (P1 ?_) ?_; (repeat (first | exact E0 | (refine C0 (by first | exact F4 _ | exact D9 _ _ | exact E1 _ | exact E2 _ | exact E7) ?_)))) | (refine J3 (P2 ?_) ?_; (repeat (first | exact P3 | (refine P5 (fun _ => ?_); (first | exact TWrite.flat _ | exact TFeedItem.flat _ | exact TIdx.flat _ | exact TVer.flat _ | (repeat (first | exact E0 | (refine C0 (by first | exact F4 _ | exact D9 _ _ | exact E1 _ | exact E2 _ | exact E7) ?_))))) | (refine P6 ?_; (first | exact TWrite.flat _ | exact TFeedItem.flat _ | exact TIdx.flat _ | exact TVer.flat _ | (repeat (first | exact E0 | (refine C0 (by first | exact F4 _ | exact D9 _ _ | exact E1 _ | exact E2 _ | exact E7) ?_))))) | (refine N8 ?_ ?_; (first | exact TWrite.flat _ | exact TFeedItem.flat _ | exact TIdx.flat _ | exact TVer.flat _ | (repeat (first | exact E0 | (refine C0 (by first | exact F4 _ | exact D9 _ _ | exact E1 _ | exact E2 _ | exact E7) ?_))))) | refine P4 ?_ ?_))))); done)) ?_
 intro x41 ok41
 refine A5 rfl ?_
 refine A1 rfl (c5 rfl C7 D2 Tryz.zeroValue9 rfl rfl rfl rfl (O2 (A0 rfl) (U8 _) Z1) rfl rfl) ?_
 refine S0 (by' := 16) 0 rfl rfl rfl rfl C7 Tryz.type9 rfl rfl rfl rfl rfl rfl (A0 rfl) (A0 rfl) rfl (by simp only [A6, G2, B1]; omega) ?_
 intro v44_2
 refine A5 rfl ?_
 refine S0 (by' := 16) 0 rfl rfl rfl rfl C7 Tryz.type9 rfl rfl rfl rfl rfl rfl (A0 rfl) (A0 rfl) rfl (by simp only [A6, G2, List.length_drop, O9, B1]; omega) ?_
 intro v46_3
 refine B5 rfl ?_
 refine A4 ?_
 refine B7 ?_
 exact x8 [0] v46_3 (trivial) rfl (by first | rfl | exact congrArg (fun z => [Own.arr _ 9 1 z]) (by show List.map (fun s => [AV.str s]) (l.take k ++ s :: l.drop k) = (List.map (fun s => [AV.str s]) (l.take k) ++ [[AV.str s]]) ++ List.map (fun s => [AV.str s]) (l.drop k); simp)) (x9 rfl (B6 rfl (by rfl)))
end Go.Proofs.YtkegepoihkhihaaGreat

namespace Go.M
open Go.AV
theorem fullC_at {l : List TCell} {k : Str} {c : TCell} (hc : ¬ atC l k < 0 → findC l k = some c) : fullC l k = (decide ((0 : Int) ≤ atC l k) && decide ((16 : Int) ≤ (c.Vers.length : Int))) := by
  unfold fullC
  by_cases h : atC l k < 0
  · rw [AO4 h, decide_eq_false (by omega)]; rfl
  · rw [hc h, decide_eq_true (by omega), Bool.true_and]
    dsimp only
    rw [decide_eq_decide]; omega
theorem at_some (l : List TCell) (k : Str) : ∃ c : TCell, ¬ atC l k < 0 → (∃ p : Nat, atC l k = (p : Int) ∧ l[p]? = some c) ∧ findC l k = some c := by
  by_cases h : atC l k < 0
  · exact ⟨⟨[], []⟩, fun k => absurd h k⟩
  · obtain ⟨p, c, h1, h2, h3⟩ := AO5 h
    exact ⟨c, fun _ => ⟨⟨p, h1, h2⟩, h3⟩⟩
theorem c0 {s : TState} {i : Nat} {h y : THeld} (hx : s.Held[i]? = some h) (hy : s.Held[i - 1]? = some y) : heldAt s i = (!((!l4Good (hRec h) || decide (s.Floor < h.Time)) || (decide ((0 : Int) < (i : Int)) && decide (h.Txn ≤ y.Txn))) && ((s.Held.take i).all (fun g => apart g h.Reads h.Writes) && h.Writes.all fun w => decide (lastTime s.Cells w.Key < h.Time))) := by
  rw [Z5 hx hy, AQ0]
  have h2 : ((s.Held.take i).all fun g => apart g h.Reads h.Writes) = !((s.Held.take i).any fun g => clash h g) := by
    rw [List.not_any_eq_all_not]; congr 1; funext g; rw [o7, Bool.not_not]
  have h3 : (h.Writes.all fun w => decide (lastTime s.Cells w.Key < h.Time)) = !(h.Writes.any fun w => decide (h.Time ≤ lastTime s.Cells w.Key)) := by
    rw [List.not_any_eq_all_not]; congr 1; funext w; rw [← decide_not, decide_eq_decide]; omega
  rw [h2, h3]
theorem j3 {s : TState} {i : Nat} {t y : TTold} (hx : s.Told[i]? = some t) (hy : s.Told[i - 1]? = some y) : toldAt s i = (!((((!within t.Txn 1 60 || (decide ((0 : Int) < (i : Int)) && decide (t.Txn ≤ y.Txn))) || (t.Yes && !within t.Time 1 s.Floor)) || (!t.Yes && (t.Time != 0)))) && !hasH s.Held t.Txn) := by
  rw [e6 hx hy]
  congr 2
  show ((!within t.Txn 1 60 || _) || _) = _
  have e : (!((t.Yes && within t.Time 1 s.Floor) || (!t.Yes && (t.Time == 0)))) = ((t.Yes && !within t.Time 1 s.Floor) || (!t.Yes && (t.Time != 0))) := by
    show _ = ((t.Yes && !within t.Time 1 s.Floor) || (!t.Yes && !(t.Time == 0)))
    cases t.Yes <;> simp
  rw [e]
  cases within t.Txn 1 60 <;> cases (decide ((0 : Int) < (i : Int)) && decide (t.Txn ≤ y.Txn)) <;> cases (t.Yes && !within t.Time 1 s.Floor) <;> cases (!t.Yes && (t.Time != 0)) <;> rfl
def heldFO (l : List THeld) (n : Int) : THeld × Bool := match findH l n with | some h => (h, true) | none => (zHeld, false)
theorem AC9 (l : List THeld) (n : Int) : (heldFO l n).2 = hasH l n := by
  unfold heldFO
  cases h : findH l n with
  | none => exact (AQ4.1 h).symm
  | some x => obtain ⟨h1, h2⟩ := AQ3 h; exact (hasH_iff.2 ⟨x, h1, h2⟩).symm
theorem w1 {α : Type} {p : α → Bool} : ∀ {l : List α} {i : Nat} {x : α}, l[i]? = some x → p x = true → (∀ j y, j < i → l[j]? = some y → p y = false) → l.find? p = some x
  | [], i, x, h, _, _ => by simp at h
  | y :: l, 0, x, h, hp, _ => by simp at h; subst h; rw [List.find?_cons, hp]
  | y :: l, i + 1, x, h, hp, hn => by
    rw [List.find?_cons, hn 0 y (by omega) rfl]
    exact w1 (by simpa using h) hp fun j z hj hz => hn (j + 1) z (by omega) (by simpa using hz)
theorem find_not {α : Type} {p : α → Bool} {l : List α} (hn : ∀ (j : Nat) (y : α), l[j]? = some y → p y = false) : l.find? p = none := by
  rw [List.find?_eq_none]
  intro x hx
  obtain ⟨j, hj⟩ := List.getElem?_of_mem hx
  rw [hn j x hj]; decide
end Go.M
namespace Go.Proofs.YtkegepoihkhihaaGreat
open Go Go.AV Go.M
attribute [local irreducible] OpW OpA OpS AWP FSpec ESpec GSpec OpE RetOk RetOkG RvDen Le Ev GuardIs SrcIs Int.tmod Int.tdiv IntKind.wrap
theorem AE6 (h : THeld) : FSpec Tryz.prog 177 [AV.agg h.cs] (AV.agg (hRec h).cs) := by
 refine C1 Tryz.func177 rfl Tryz.ntmps177 rfl ?_
 refine A3 (A2 ?_)
 refine I2 rfl rfl rfl rfl (A0 rfl) ?_
 intro b1
 refine H4 rfl rfl rfl rfl Tryz.zeroValue104 rfl ?_
 intro b2
 refine A4 (A3 (A2 ?_))
 refine A1 rfl (B2 0 rfl D5 rfl C2 (A0 rfl) rfl) ?_
 refine A1 rfl (B0 1 rfl (A0 rfl) rfl D0 rfl) ?_
 refine A1 rfl (B2 1 rfl D5 rfl C2 (A0 rfl) rfl) ?_
 refine A1 rfl (B0 1 rfl (A0 rfl) rfl D0 rfl) ?_
 refine A1 rfl (B2 2 rfl D5 rfl C2 (A0 rfl) rfl) ?_
 refine A1 rfl (B0 1 rfl (A0 rfl) rfl D0 rfl) ?_
 refine A1 rfl (B2 3 rfl D5 rfl J2 (A0 rfl) rfl) ?_
 refine A1 rfl (B0 1 rfl (A0 rfl) rfl K3 rfl) ?_
 refine A1 rfl (B2 4 rfl D5 rfl H7 (A0 rfl) rfl) ?_
 refine A1 rfl (B0 1 rfl (A0 rfl) rfl I4 rfl) ?_
 refine A1 rfl (x4 (places := #[(0, 1), (1, 1), (2, 1), (3, 1), (4, 1), (5, 1), (6, 1)]) rfl C8 Tryz.zeroValue104 (fun w => by kernel_rfl) rfl (O2 B3 (T4 _ _) (O2 (A0 rfl) (T4 _ _) (O2 (A0 rfl) (T4 _ _) (O2 (A0 rfl) (T4 _ _) (O2 (A0 rfl) (U2 _ _) (O2 (A0 rfl) (U2 _ _) Z1)))))) rfl) ?_
 refine H1 0 rfl rfl rfl (A0 rfl) (A0 rfl) (I6 _) rfl Tryz.sizeOf104 rfl ?_
 refine A4 ?_
 refine B7 ?_
 exact D7 rfl (U1 (ys := _) 0 rfl rfl Tryz.isAgg104 Tryz.sizeOf104 rfl)
theorem w3 (l : List TWrite) (k : Str) : FSpec Tryz.prog 214 [AV.list 3 (l.map TWrite.cs), AV.str k] (AV.bool (hasK l k)) := by
 refine C1 Tryz.func214 rfl Tryz.ntmps214 rfl ?_
 refine J7 (t := 0) rfl fun hl => ?_
 try simp only [A6] at hl
 refine A3 (A2 ?_)
 refine A1 rfl (A8 rfl D8) ?_
 refine A4 (A3 (A3 (A2 ?_)))
 refine A5 rfl ?_
 refine A1 rfl (E4 rfl E6 (A0 rfl)) ?_
 refine A1 rfl (C3 rfl B3) ?_
 refine A4 (C5 ?_)
 refine G0 [(1, _), (7, _), (8, _)] _ (fun (i : Nat) => i ≤ l.length ∧ hasK l k = (l.drop i).any (fun w => w.Key == k)) (fun (i : Nat) => []) (fun (i : Nat) => [(9, AV.int i)]) (fun (i : Nat) => l.length - i) (0) ?_ (G1 ⟨rfl, rfl, rfl, rfl, trivial⟩) ?_
 ·exact ⟨Nat.zero_le _, rfl⟩
 intro i hinv
 refine A3 (A2 ?_)
 refine A1 rfl (F8 rfl (A0 rfl) (A0 rfl)) ?_
 refine A4 (A3 ?_)
 refine B8 (A0 rfl) ?_ ?_
 ·intro h10
  have k10 := of_decide_eq_true h10; try simp only [A6] at k10
  have hlt : i < l.length := by omega
  obtain ⟨x, hx⟩ := get_some hlt
  refine B9 (A3 (C5 (A3 (A2 ?_))))
  refine A1 rfl (H8 rfl E6 F7 (A0 rfl) (A0 rfl) hx (by first | omega | (simp only [D1, B1, szR] at *; omega))) ?_
  refine A1 rfl (G8 rfl (A0 rfl) L5 F7) ?_
  refine H4 rfl rfl rfl rfl Tryz.zeroValue101 rfl ?_
  intro b6
  refine H1 0 rfl rfl rfl (A0 rfl) (A0 rfl) (I6 _) rfl F7 rfl ?_
  refine A4 (A3 (A2 ?_))
  refine A1 rfl (B2 0 rfl F5 rfl D2 (A0 rfl) rfl) ?_
  refine A1 rfl (B0 0 rfl (A0 rfl) rfl E5 rfl) ?_
  refine A5 rfl ?_
  refine A1 rfl (c2 rfl (A0 rfl) (A0 rfl)) ?_
  refine A4 ?_
  refine B8 (A0 rfl) ?_ ?_
  ·intro h16
   refine A3 (A2 ?_)
   refine A1 rfl (A8 rfl D8) ?_
   refine A4 ?_
   refine B7 ?_
   exact D7 rfl (B6 rfl (by first | exact congrArg AV.bool (by rw [hinv.2, drop_some hx, List.any_cons, h16]; rfl) | exact congrArg AV.bool (by rw [hinv.2, List.drop_eq_nil_of_le hge]; rfl)))
  intro h16
  refine B9 (A2 ?_)
  refine A1 rfl (G6 rfl (A0 rfl) B3 (by first | omega | (simp only [D1, B1, szR] at *; omega))) ?_
  refine A5 rfl ?_
  refine A4 ?_
  refine G9 i (i + 1) ?_ ?_ (N0 1 ⟨rfl, rfl, rfl, rfl, trivial⟩)
  ·exact ⟨by omega, by rw [hinv.2, drop_some hx, List.any_cons, h16]; rfl⟩
  omega
 intro h10
 have k10 := of_decide_eq_false h10; try simp only [A6] at k10
 have hge : l.length ≤ i := by omega
 refine F3 ?_
 refine A3 (A2 ?_)
 refine A1 rfl (A8 rfl D8) ?_
 refine A4 ?_
 refine B7 ?_
 exact D7 rfl (B6 rfl (by first | exact congrArg AV.bool (by rw [hinv.2, drop_some hx, List.any_cons, h16]; rfl) | exact congrArg AV.bool (by rw [hinv.2, List.drop_eq_nil_of_le hge]; rfl)))
theorem AR4 (l : List Str) (k : Str) : FSpec Tryz.prog 215 [strs l, AV.str k] (AV.bool (hasS l k)) := by
 refine C1 Tryz.func215 rfl Tryz.ntmps215 rfl ?_
 refine J7 (t := 0) rfl fun hl => ?_
 try simp only [A6] at hl
 refine A3 (A2 ?_)
 refine A1 rfl (A8 rfl D8) ?_
 refine A4 (A3 (A3 (A2 ?_)))
 refine A5 rfl ?_
 refine A1 rfl (E4 rfl C7 (A0 rfl)) ?_
 refine A1 rfl (C3 rfl B3) ?_
 refine A4 (C5 ?_)
 refine G0 [(1, _), (7, _), (8, _)] _ (fun (i : Nat) => i ≤ l.length ∧ hasS l k = (l.drop i).any (fun x => k == x)) (fun (i : Nat) => []) (fun (i : Nat) => [(9, AV.int i)]) (fun (i : Nat) => l.length - i) (0) ?_ (G1 ⟨rfl, rfl, rfl, rfl, trivial⟩) ?_
 ·exact ⟨Nat.zero_le _, rfl⟩
 intro i hinv
 refine A3 (A2 ?_)
 refine A1 rfl (F8 rfl (A0 rfl) (A0 rfl)) ?_
 refine A4 (A3 ?_)
 refine B8 (A0 rfl) ?_ ?_
 ·intro h10
  have k10 := of_decide_eq_true h10; try simp only [A6] at k10
  have hlt : i < l.length := by omega
  obtain ⟨x, hx⟩ := get_some hlt
  refine B9 (A3 (C5 (A3 (A2 ?_))))
  refine A1 rfl (H8 rfl C7 D2 (A0 rfl) (A0 rfl) hx (by first | omega | (simp only [D1, B1, szR] at *; omega))) ?_
  refine A1 rfl (I9 rfl (A0 rfl) E5 rfl) ?_
  refine B5 rfl ?_
  refine A4 (A3 (A2 ?_))
  refine A5 rfl ?_
  refine A5 rfl ?_
  refine A1 rfl (c2 rfl (A0 rfl) (A0 rfl)) ?_
  refine A4 ?_
  refine B8 (A0 rfl) ?_ ?_
  ·intro h15
   refine A3 (A2 ?_)
   refine A1 rfl (A8 rfl D8) ?_
   refine A4 ?_
   refine B7 ?_
   exact D7 rfl (B6 rfl (by first | exact congrArg AV.bool (by rw [hinv.2, drop_some hx, List.any_cons, show (k == x) = true from by have h9 := h15; simp at h9 ⊢; exact h9.symm]; rfl) | exact congrArg AV.bool (by rw [hinv.2, List.drop_eq_nil_of_le hge]; rfl)))
  intro h15
  refine B9 (A2 ?_)
  refine A1 rfl (G6 rfl (A0 rfl) B3 (by first | omega | (simp only [D1, B1, szR] at *; omega))) ?_
  refine A5 rfl ?_
  refine A4 ?_
  refine G9 i (i + 1) ?_ ?_ (G1 ⟨rfl, rfl, rfl, rfl, trivial⟩)
  ·exact ⟨by omega, by rw [hinv.2, drop_some hx, List.any_cons, show (k == x) = false from by have h9 := h15; simp at h9 ⊢; exact fun e => h9 e.symm]; rfl⟩
  omega
 intro h10
 have k10 := of_decide_eq_false h10; try simp only [A6] at k10
 have hge : l.length ≤ i := by omega
 refine F3 ?_
 refine A3 (A2 ?_)
 refine A1 rfl (A8 rfl D8) ?_
 refine A4 ?_
 refine B7 ?_
 exact D7 rfl (B6 rfl (by first | exact congrArg AV.bool (by rw [hinv.2, drop_some hx, List.any_cons, show (k == x) = true from by have h9 := h15; simp at h9 ⊢; exact h9.symm]; rfl) | exact congrArg AV.bool (by rw [hinv.2, List.drop_eq_nil_of_le hge]; rfl)))
theorem apart_spec (h : THeld) (rs : List Str) (ws : List TWrite) : FSpec Tryz.prog 178 [AV.agg h.cs, strs rs, AV.list 3 (ws.map TWrite.cs)] (AV.bool (apart h rs ws)) := by
 refine C1 Tryz.func178 rfl Tryz.ntmps178 rfl ?_
 refine J7 (t := 1) rfl fun hl1 => ?_
 try simp only [A6] at hl1
 refine J7 (t := 2) rfl fun hl2 => ?_
 try simp only [A6] at hl2
 refine A3 (A2 ?_)
 refine I2 rfl rfl rfl rfl (A0 rfl) ?_
 intro b3
 refine A1 rfl (A8 rfl D8) ?_
 refine A4 (A3 (A3 (A2 ?_)))
 refine A5 rfl ?_
 refine A1 rfl (E4 rfl C7 (A0 rfl)) ?_
 refine A1 rfl (C3 rfl B3) ?_
 refine A4 (C5 ?_)
 refine G0 [(2, _), (3, _), (11, _), (12, _)] _ (fun (i : Nat) => i ≤ rs.length ∧ (rs.all fun k => !hasK h.Writes k) = ((rs.drop i).all fun k => !hasK h.Writes k)) (fun (i : Nat) => []) (fun (i : Nat) => [(13, AV.int i)]) (fun (i : Nat) => rs.length - i) (0) ?_ (G1 ⟨rfl, rfl, rfl, rfl, rfl, trivial⟩) ?_
 ·exact ⟨Nat.zero_le _, rfl⟩
 intro i hinv
 refine A3 (A2 ?_)
 refine A1 rfl (F8 rfl (A0 rfl) (A0 rfl)) ?_
 refine A4 (A3 ?_)
 refine B8 (A0 rfl) ?_ ?_
 ·intro h14
  have k14 := of_decide_eq_true h14; try simp only [A6] at k14
  have hlt : i < rs.length := by omega
  obtain ⟨x, hx⟩ := get_some hlt
  refine B9 (A3 (C5 (A3 (A2 ?_))))
  refine A1 rfl (H8 rfl C7 D2 (A0 rfl) (A0 rfl) hx (by first | omega | (simp only [D1, B1, szR] at *; omega))) ?_
  refine A1 rfl (I9 rfl (A0 rfl) E5 rfl) ?_
  refine B5 rfl ?_
  refine A4 (A3 (A2 ?_))
  refine A1 rfl (B2 4 rfl D5 rfl H7 (A0 rfl) rfl) ?_
  refine A1 rfl (B0 0 rfl (A0 rfl) rfl I4 rfl) ?_
  refine A5 rfl ?_
  refine A1 rfl (D4 rfl Tryz.call214 rfl (w3 _ _) (A9 (A0 rfl) (A9 (A0 rfl) C6))) ?_
  refine A4 ?_
  refine B8 (A0 rfl) ?_ ?_
  ·intro h20
   have hfin : apart h rs ws = false := by (unfold apart; rw [hinv.2, drop_some hx, List.all_cons, h20]; rfl)
   refine A3 (A2 ?_)
   refine A1 rfl (A8 rfl D8) ?_
   refine A4 ?_
   refine B7 ?_
   exact D7 rfl (B6 rfl (by exact congrArg AV.bool hfin.symm))
  intro h20
  refine B9 (A2 ?_)
  refine A1 rfl (G6 rfl (A0 rfl) B3 (by first | omega | (simp only [D1, B1, szR] at *; omega))) ?_
  refine A5 rfl ?_
  refine A4 ?_
  refine G9 i (i + 1) ?_ ?_ (G1 ⟨rfl, rfl, rfl, rfl, rfl, trivial⟩)
  ·exact ⟨by omega, by rw [hinv.2, drop_some hx, List.all_cons, h20]; rfl⟩
  omega
 intro h14
 have k14 := of_decide_eq_false h14; try simp only [A6] at k14
 have hge : rs.length ≤ i := by omega
 have hr : (rs.all fun k => !hasK h.Writes k) = true := by (rw [hinv.2, List.drop_eq_nil_of_le hge]; rfl)
 refine F3 ?_
 refine A3 (A3 (A2 ?_))
 refine A5 rfl ?_
 refine A1 rfl (E4 rfl E6 (A0 rfl)) ?_
 refine A1 rfl (C3 rfl B3) ?_
 refine A4 (C5 ?_)
 refine G0 [(3, _), (22, _), (23, _)] _ (fun (q : Nat) => q ≤ ws.length ∧ (ws.all fun w => !(hasK h.Writes w.Key || hasS h.Reads w.Key)) = ((ws.drop q).all fun w => !(hasK h.Writes w.Key || hasS h.Reads w.Key))) (fun (q : Nat) => []) (fun (q : Nat) => [(24, AV.int q)]) (fun (q : Nat) => ws.length - q) (0) ?_ (G1 ⟨rfl, rfl, rfl, rfl, trivial⟩) ?_
 ·exact ⟨Nat.zero_le _, rfl⟩
 intro q hinv
 refine A3 (A2 ?_)
 refine A1 rfl (F8 rfl (A0 rfl) (A0 rfl)) ?_
 refine A4 (A3 ?_)
 refine B8 (A0 rfl) ?_ ?_
 ·intro h25
  have k25 := of_decide_eq_true h25; try simp only [A6] at k25
  have hlt : q < ws.length := by omega
  obtain ⟨x, hx⟩ := get_some hlt
  refine B9 (A3 (C5 (A3 (A2 ?_))))
  refine A1 rfl (H8 rfl E6 F7 (A0 rfl) (A0 rfl) hx (by first | omega | (simp only [D1, B1, szR] at *; omega))) ?_
  refine A1 rfl (G8 rfl (A0 rfl) L5 F7) ?_
  refine H4 rfl rfl rfl rfl Tryz.zeroValue101 rfl ?_
  intro b10
  refine H1 0 rfl rfl rfl (A0 rfl) (A0 rfl) (I6 _) rfl F7 rfl ?_
  refine A4 (A3 (A2 ?_))
  refine A1 rfl (B2 4 rfl D5 rfl H7 (A0 rfl) rfl) ?_
  refine A1 rfl (B0 1 rfl (A0 rfl) rfl I4 rfl) ?_
  refine A1 rfl (B2 0 rfl F5 rfl D2 (A0 rfl) rfl) ?_
  refine A1 rfl (B0 0 rfl (A0 rfl) rfl E5 rfl) ?_
  refine A1 rfl (D4 rfl Tryz.call214 rfl (w3 _ _) (A9 (A0 rfl) (A9 (A0 rfl) C6))) ?_
  refine A5 rfl ?_
  refine I0 rfl (fun hc => B2 3 rfl D5 rfl J2 (A0 rfl) rfl) ?_
  refine I0 rfl (fun hc => B0 1 rfl (A7 rfl hc) rfl K3 rfl) ?_
  refine I0 rfl (fun hc => B2 0 rfl F5 rfl D2 (A0 rfl) rfl) ?_
  refine I0 rfl (fun hc => B0 0 rfl (A7 rfl hc) rfl E5 rfl) ?_
  refine I0 rfl (fun hc => D4 rfl Tryz.call215 rfl (AR4 _ _) (A9 (A7 rfl hc) (A9 (A7 rfl hc) C6))) ?_
  refine A1 rfl (M5 rfl (A0 rfl) (E9 rfl)) ?_
  refine A4 ?_
  refine B8 (A0 rfl) ?_ ?_
  ·intro h39
   have hfin : apart h rs ws = false := by (unfold apart; rw [hinv.2, drop_some hx, List.all_cons, h39]; simp)
   refine A3 (A2 ?_)
   refine A1 rfl (A8 rfl D8) ?_
   refine A4 ?_
   refine B7 ?_
   exact D7 rfl (B6 rfl (by exact congrArg AV.bool hfin.symm))
  intro h39
  refine B9 (A2 ?_)
  refine A1 rfl (G6 rfl (A0 rfl) B3 (by first | omega | (simp only [D1, B1, szR] at *; omega))) ?_
  refine A5 rfl ?_
  refine A4 ?_
  refine G9 q (q + 1) ?_ ?_ (N0 1 ⟨rfl, rfl, rfl, rfl, trivial⟩)
  ·exact ⟨by omega, by rw [hinv.2, drop_some hx, List.all_cons, h39]; rfl⟩
  omega
 intro h25
 have k25 := of_decide_eq_false h25; try simp only [A6] at k25
 have hge : ws.length ≤ q := by omega
 have hfin : apart h rs ws = true := by (unfold apart; rw [hr, hinv.2, List.drop_eq_nil_of_le hge]; rfl)
 refine F3 ?_
 refine A3 (A2 ?_)
 refine A1 rfl (A8 rfl D8) ?_
 refine A4 ?_
 refine B7 ?_
 exact D7 rfl (B6 rfl (by exact congrArg AV.bool hfin.symm))
theorem AM7 (l : List THeld) (q : Nat) : (hWs (l.take q)).length ≤ (hWs l).length := by
  have h := u3 (l.take q) (l.drop q)
  rw [List.take_append_drop] at h
  rw [h, O9]; omega
theorem AR5 (s : TState) (ws : List TWrite) (hs : s.size ≤ 1048576) (hb : s.Cells.length + ws.length + (hWs s.Held).length ≤ 800000) : FSpec Tryz.prog 179 [AV.agg s.cs, AV.list 3 (ws.map TWrite.cs)] (AV.bool (room s.Cells (ws ++ hWs s.Held))) := by
 obtain ⟨hs1, hs2, hs3, hs4, hs5⟩ := U5 hs
 obtain ⟨p, hp⟩ : ∃ p : TWrite → Bool, p = fun w => !fullC s.Cells w.Key := ⟨_, rfl⟩
 obtain ⟨al, hal⟩ : ∃ al, ws ++ hWs s.Held = al := ⟨_, rfl⟩
 have hall : al.length ≤ 800000 - s.Cells.length := by rw [← hal, O9]; omega
 rw [hal]
 refine C1 Tryz.func179 rfl Tryz.ntmps179 rfl ?_
 refine A3 (A2 ?_)
 refine I2 rfl rfl rfl rfl (A0 rfl) ?_
 intro b2
 refine A1 rfl (A8 rfl D8) ?_
 refine A4 (A3 (A2 ?_))
 refine AS8 9 1 rfl rfl rfl rfl g9 ?_
 intro v5
 refine A4 (A3 (A3 (A2 ?_)))
 refine A1 rfl (B2 1 rfl D6 rfl J9 (A0 rfl) rfl) ?_
 refine A1 rfl (B0 1 rfl (A0 rfl) rfl L3 rfl) ?_
 refine A1 rfl (E4 rfl F1 (A0 rfl)) ?_
 refine A1 rfl (C3 rfl B3) ?_
 refine A4 (C5 ?_)
 refine M3 [(1, _), (2, _), (4, _), (15, _), (16, _)] _ (fun (i : Nat) (v : Value) => i ≤ s.Cells.length) (fun (i : Nat) (v : Value) => [.arr v 9 1 ((putAllS (cKeys (s.Cells.take i)) []).map fun s => [AV.str s])]) (fun (i : Nat) (v : Value) => [(5, AV.is v), (17, AV.int i)]) (fun (i : Nat) (v : Value) => s.Cells.length - i) (0) (v5) ?_ (M7 (by rfl) ⟨rfl, rfl, rfl, rfl, rfl, rfl, rfl, trivial⟩) ?_
 ·exact Nat.zero_le _
 intro i v hinv
 refine A3 (A2 ?_)
 refine A1 rfl (F8 rfl (A0 rfl) (A0 rfl)) ?_
 refine A4 (A3 ?_)
 refine B8 (A0 rfl) ?_ ?_
 ·intro h18
  have k18 := of_decide_eq_true h18; try simp only [A6] at k18
  have hlt : i < s.Cells.length := by omega
  obtain ⟨c, hx⟩ := get_some hlt
  have hpl := f0 (cKeys (s.Cells.take i)) []
  unfold cKeys at hpl
  simp only [A6, G2, f4] at hpl
  refine B9 (A3 (C5 (A3 (A2 ?_))))
  refine A1 rfl (H8 rfl F1 E8 (A0 rfl) (A0 rfl) hx (by first | omega | (simp only [D1, B1, szR] at *; omega))) ?_
  refine A1 rfl (G8 rfl (A0 rfl) L2 E8) ?_
  refine H4 rfl rfl rfl rfl Tryz.zeroValue125 rfl ?_
  intro b7
  refine H1 0 rfl rfl rfl (A0 rfl) (A0 rfl) (I6 _) rfl E8 rfl ?_
  refine A4 (A2 ?_)
  refine A5 rfl ?_
  refine A1 rfl (B2 0 rfl F6 rfl D2 (A0 rfl) rfl) ?_
  refine A1 rfl (B0 0 rfl (A0 rfl) rfl E5 rfl) ?_
  refine i6 [1] rfl rfl rfl rfl Tryz.call169 rfl (v8 v (putAllS (cKeys (s.Cells.take i)) []) c.Key (Y5 List.Pairwise.nil).1 (by unfold cKeys; omega)) (A9 (A0 rfl) (A9 (A0 rfl) C6)) rfl ?_
  intro x24 ok24
  refine B5 rfl ?_
  refine A4 (A2 ?_)
  refine A1 rfl (G6 rfl (A0 rfl) B3 (by first | omega | (simp only [D1, B1, szR] at *; omega))) ?_
  refine A5 rfl ?_
  refine A4 ?_
  refine L8 i v (i + 1) (x24) ?_ ?_ (Le.trans (X1 [1, 0] rfl) (S1 1 (by exact congrArg (fun z => Own.arr _ 9 1 (List.map (fun s => [AV.str s]) z) :: _) (by unfold cKeys; rw [List.take_add_one, hx, List.map_append]; exact (m4 _ _ _).symm)) ⟨rfl, rfl, rfl, rfl, rfl, rfl, rfl, trivial⟩))
  ·omega
  omega
 intro h18
 have k18 := of_decide_eq_false h18; try simp only [A6] at k18
 have hge : s.Cells.length ≤ i := by omega
 rw [List.take_of_length_le hge]
 refine F3 ?_
 refine A3 (A2 ?_)
 refine V9 rfl rfl rfl rfl E6 F7 ?_
 intro v26
 refine A5 rfl ?_
 refine S0 (by' := 40) 0 rfl rfl rfl rfl E6 Tryz.type101 rfl rfl rfl rfl rfl rfl (A0 rfl) (A0 rfl) rfl (by simp only [f4, A6]; omega) ?_
 intro v28_1
 refine B5 rfl ?_
 refine A4 (A3 (A3 (A2 ?_)))
 refine A1 rfl (B2 2 rfl D6 rfl K6 (A0 rfl) rfl) ?_
 refine A1 rfl (B0 2 rfl (A0 rfl) rfl L7 rfl) ?_
 refine A1 rfl (E4 rfl F0 (A0 rfl)) ?_
 refine A1 rfl (C3 rfl B3) ?_
 refine A4 (C5 ?_)
 refine T9 [(2, _), (4, _), (5, _), (30, _), (31, _)] _ (fun (q : Nat) (u : Value) (a : List TWrite) => q ≤ s.Held.length ∧ a = ws ++ hWs (s.Held.take q)) (fun (q : Nat) (u : Value) (a : List TWrite) => [.arr u 101 3 (a.map TWrite.cs)]) (fun (q : Nat) (u : Value) (a : List TWrite) => [(8, AV.is u), (32, AV.int q)]) (fun (q : Nat) (u : Value) (a : List TWrite) => s.Held.length - q) (0) (v28_1) (ws) ?_ (M7 (by rfl) ⟨rfl, rfl, rfl, rfl, rfl, rfl, rfl, trivial⟩) ?_
 ·exact ⟨Nat.zero_le _, by rw [List.take_zero]; exact (List.append_nil _).symm⟩
 intro q u a hinv
 refine A3 (A2 ?_)
 refine A1 rfl (F8 rfl (A0 rfl) (A0 rfl)) ?_
 refine A4 (A3 ?_)
 refine B8 (A0 rfl) ?_ ?_
 ·intro h33
  have k33 := of_decide_eq_true h33; try simp only [A6] at k33
  have hlt : q < s.Held.length := by omega
  obtain ⟨h, hx⟩ := get_some hlt
  obtain ⟨g1, g2, g3, g4, g5⟩ := Z4 hs2 hx
  have hwt := AM7 s.Held q
  have hal9 : a.length ≤ 800000 := by (rw [hinv.2, O9]; omega)
  refine B9 (A3 (C5 (A3 (A2 ?_))))
  refine A1 rfl (H8 rfl F0 E3 (A0 rfl) (A0 rfl) hx (by first | omega | (simp only [D1, B1, szR] at *; omega))) ?_
  refine A1 rfl (G8 rfl (A0 rfl) I5 E3) ?_
  refine H4 rfl rfl rfl rfl Tryz.zeroValue141 rfl ?_
  intro b10
  refine H1 0 rfl rfl rfl (A0 rfl) (A0 rfl) (I6 _) rfl E3 rfl ?_
  refine A4 (A2 ?_)
  refine A5 rfl ?_
  refine A1 rfl (B2 4 rfl D5 rfl H7 (A0 rfl) rfl) ?_
  refine A1 rfl (B0 0 rfl (A0 rfl) rfl I4 rfl) ?_
  refine S0 (by' := 40) 1 rfl rfl rfl rfl E6 Tryz.type101 rfl rfl rfl rfl rfl rfl (A0 rfl) (A0 rfl) rfl (by simp only [O9, A6]; omega) ?_
  intro v39_2
  refine B5 rfl ?_
  refine A4 (A2 ?_)
  refine A1 rfl (G6 rfl (A0 rfl) B3 (by first | omega | (simp only [D1, B1, szR] at *; omega))) ?_
  refine A5 rfl ?_
  refine A4 ?_
  refine T3 q u a (q + 1) (v39_2) (a ++ h.Writes) ?_ ?_ (Le.trans (X1 [0, 0] rfl) (S1 1 (by (rw [List.map_append]; rfl)) ⟨rfl, rfl, rfl, rfl, rfl, rfl, rfl, trivial⟩))
  ·exact ⟨by omega, by rw [hinv.2, AI6 hx, List.append_assoc]⟩
  omega
 intro h33
 have k33 := of_decide_eq_false h33; try simp only [A6] at k33
 have hge : s.Held.length ≤ q := by omega
 have ha9 : a = al := by (rw [hinv.2, List.take_of_length_le hge, hal])
 subst ha9
 refine F3 ?_
 refine A3 (A3 (A2 ?_))
 refine A5 rfl ?_
 refine A1 rfl (f8 0 rfl E6 (A0 rfl) rfl) ?_
 refine A1 rfl (C3 rfl B3) ?_
 refine A4 (C5 ?_)
 refine AWP.le (X1 [1] rfl) ?_
 refine T9 [(2, _), (41, _), (42, _)] _ (fun (r : Nat) (v2 : Value) (ks : List Str) => r ≤ a.length ∧ a.all p = (a.drop r).all p ∧ ks = putAllS (cKeys s.Cells ++ wKeys (a.take r)) []) (fun (r : Nat) (v2 : Value) (ks : List Str) => [.arr v2 9 1 (ks.map fun s => [AV.str s])]) (fun (r : Nat) (v2 : Value) (ks : List Str) => [(5, AV.is v2), (43, AV.int r)]) (fun (r : Nat) (v2 : Value) (ks : List Str) => a.length - r) (0) (v) (putAllS (cKeys s.Cells) []) ?_ (M7 (by rfl) ⟨rfl, rfl, rfl, rfl, rfl, trivial⟩) ?_
 ·exact ⟨Nat.zero_le _, rfl, by rw [List.take_zero]; exact congrArg (fun z => putAllS z []) (List.append_nil _).symm⟩
 intro r v2 ks hinv
 refine A3 (A2 ?_)
 refine A1 rfl (F8 rfl (A0 rfl) (A0 rfl)) ?_
 refine A4 (A3 ?_)
 refine B8 (A0 rfl) ?_ ?_
 ·intro h44
  have k44 := of_decide_eq_true h44; try simp only [A6] at k44
  have hlt : r < a.length := by omega
  obtain ⟨w, hx⟩ := get_some hlt
  obtain ⟨c, hc0⟩ := at_some s.Cells w.Key
  have hfu := fullC_at (l := s.Cells) (k := w.Key) (c := c) (fun h9 => (hc0 h9).2)
  have hpl := f0 (cKeys s.Cells ++ wKeys (a.take r)) []
  unfold cKeys wKeys at hpl
  simp only [O9, A6, G2, f4] at hpl
  refine B9 (A3 (C5 (A3 (A2 ?_))))
  refine A1 rfl (S7 1 rfl E6 F7 (A0 rfl) rfl (A0 rfl) (by omega) (by try simp only [A6]; omega)) ?_
  refine A1 rfl (w_loadX 1 rfl (A0 rfl) rfl L5 F7 (by rw [Int.toNat_natCast, List.getElem?_map, hx]; rfl) (by decide)) ?_
  refine H4 rfl rfl rfl rfl Tryz.zeroValue101 rfl ?_
  intro b12
  refine H1 0 rfl rfl rfl (A0 rfl) (A0 rfl) (I6 _) rfl F7 rfl ?_
  refine A4 (A3 (A2 ?_))
  refine A5 rfl ?_
  refine A1 rfl (B2 0 rfl F5 rfl D2 (A0 rfl) rfl) ?_
  refine A1 rfl (B0 0 rfl (A0 rfl) rfl E5 rfl) ?_
  refine i6 [1] rfl rfl rfl rfl Tryz.call169 rfl (v8 v2 ks w.Key (by rw [hinv.2.2]; exact (Y5 List.Pairwise.nil).1) (by rw [hinv.2.2]; unfold cKeys wKeys; omega)) (A9 (A0 rfl) (A9 (A0 rfl) C6)) rfl ?_
  intro x50 ok50
  refine B5 rfl ?_
  refine A4 (A3 (A2 ?_))
  refine A1 rfl (B2 1 rfl D6 rfl J9 (A0 rfl) rfl) ?_
  refine A1 rfl (B0 3 rfl (A0 rfl) rfl L3 rfl) ?_
  refine A1 rfl (B2 0 rfl F5 rfl D2 (A0 rfl) rfl) ?_
  refine A1 rfl (B0 1 rfl (A0 rfl) rfl E5 rfl) ?_
  refine A1 rfl (D4 rfl Tryz.call180 rfl (AC7 _ _) (A9 (A0 rfl) (A9 (A0 rfl) C6))) ?_
  refine B5 rfl ?_
  refine A4 (A3 (A2 ?_))
  refine A5 rfl ?_
  refine A1 rfl (R8 rfl (A0 rfl) B3) ?_
  refine A5 rfl ?_
  refine C4 rfl (fun hc => B2 1 rfl D6 rfl J9 (A0 rfl) rfl) ?_
  refine C4 rfl (fun hc => B0 3 rfl (A7 rfl hc) rfl L3 rfl) ?_
  refine C4 rfl (fun hc => C3 rfl (A0 rfl)) ?_
  refine C4 rfl (fun hc => M1 rfl F1 E8 (A7 rfl hc) (A7 rfl hc) (by have h9 := of_decide_eq_true hc; obtain ⟨⟨p9, e1, e2⟩, _⟩ := hc0 (by omega); have := (List.getElem?_eq_some_iff.1 e2).1; omega) (by have h9 := of_decide_eq_true hc; obtain ⟨⟨p9, e1, e2⟩, _⟩ := hc0 (by omega); rw [e1, Int.toNat_natCast, List.getElem?_map, e2]; rfl)) ?_
  refine C4 rfl (fun hc => P9 rfl F6 rfl K2 (A7 rfl hc) rfl) ?_
  refine C4 rfl (fun hc => I9 rfl (A7 rfl hc) L6 rfl) ?_
  refine C4 rfl (fun hc => E4 rfl H2 (A7 rfl hc)) ?_
  refine C4 rfl (fun hc => R8 rfl (A7 rfl hc) B3) ?_
  refine A1 rfl (G4 rfl (A0 rfl) (E9 rfl)) ?_
  refine A4 ?_
  refine B8 (A0 rfl) ?_ ?_
  ·intro h67
   have hpw : p w = false := by (rw [hp]; simp only [Bool.not_eq_false']; rw [hfu]; rw [A6] at h67; exact h67)
   have hro : room s.Cells a = false := by (unfold room; rw [show (a.all fun w => !fullC s.Cells w.Key) = false from by rw [← hp, hinv.2.1, drop_some hx, List.all_cons, hpw]; rfl]; rfl)
   refine A3 (A2 ?_)
   refine A1 rfl (A8 rfl D8) ?_
   refine A4 ?_
   refine B7 ?_
   exact D7 rfl (B6 rfl (by first | exact congrArg AV.bool hro.symm | exact congrArg AV.bool (by rw [hro]; simp only [A6]; rw [decide_eq_decide]; omega)))
  intro h67
  have hpw : p w = true := by (rw [hp]; simp only [Bool.not_eq_true']; rw [hfu]; rw [A6] at h67; exact h67)
  refine B9 (A2 ?_)
  refine A1 rfl (G6 rfl (A0 rfl) B3 (by first | omega | (simp only [D1, B1, szR] at *; omega))) ?_
  refine A5 rfl ?_
  refine A4 ?_
  refine T3 r v2 ks (r + 1) (x50) (putS ks w.Key) ?_ ?_ (Le.trans (X1 [1, 0] rfl) (S1 1 (by rfl) ⟨rfl, rfl, rfl, rfl, rfl, trivial⟩))
  ·exact ⟨by omega, by rw [hinv.2.1, drop_some hx, List.all_cons, hpw]; rfl, by rw [hinv.2.2]; unfold wKeys; rw [List.take_add_one, hx, List.map_append, ← List.append_assoc]; exact (m4 _ _ _).symm⟩
  omega
 intro h44
 have k44 := of_decide_eq_false h44; try simp only [A6] at k44
 have hge : a.length ≤ r := by omega
 have hks := hinv.2.2
 rw [List.take_of_length_le hge] at hks
 have hro : room s.Cells a = decide (ks.length ≤ 24) := by (unfold room roomKs; rw [← hp, hinv.2.1, List.drop_eq_nil_of_le hge, AT7, ← hks]; rfl)
 refine F3 ?_
 refine A3 (A2 ?_)
 refine A5 rfl ?_
 refine A1 rfl (f8 0 rfl C7 (A0 rfl) rfl) ?_
 refine A1 rfl (O6 rfl (A0 rfl) B3) ?_
 refine B5 rfl ?_
 refine A4 ?_
 refine B7 ?_
 exact D7 rfl (B6 rfl (by first | exact congrArg AV.bool hro.symm | exact congrArg AV.bool (by rw [hro]; simp only [A6]; rw [decide_eq_decide]; omega)))
theorem AD0 : ∀ {l : List THeld}, (∀ h ∈ l, goodRec (hRec h) = true) → (hWs l).length ≤ 400 * l.length
  | [], _ => Nat.le_refl _
  | h :: l, hg => by
    have ih := AD0 fun k hk => hg k (List.mem_cons_of_mem h hk)
    have h1 := AE5 (hg h List.mem_cons_self)
    have h4 := K9 (f := TWrite.size) (l := h.Writes)
    have h2 : (hRec h).size = sizeL (fun x => x.length) h.Reads + sizeL TWrite.size h.Writes := rfl
    rw [c8, O9, T2]; omega
theorem AR6 {s : TState} (h : allB s.Held.length (heldAt s) = true) : ∀ k ∈ s.Held, goodRec (hRec k) = true := fun k hk => by
  obtain ⟨i, hi⟩ := List.getElem?_of_mem hk
  have h9 := V3.1 h i (List.getElem?_eq_some_iff.1 hi).1
  unfold heldAt at h9
  rw [hi] at h9
  simp only [Bool.and_eq_true] at h9
  exact h9.1.1.1.1
theorem AJ2 (s : TState) (n : Int) (hlen : s.Held.length ≤ 1048576) : FSpec Tryz.prog 128 [AV.agg s.cs, AV.int n] (AV.tup [AV.agg (heldFO s.Held n).1.cs, AV.bool (heldFO s.Held n).2]) := by
 obtain ⟨l, hl⟩ : ∃ l, s.Held = l := ⟨_, rfl⟩
 have hcs : s.cs = [AV.int s.Floor, AV.list 2 (s.Cells.map TCell.cs), AV.list 5 (l.map THeld.cs), AV.list 3 (s.Told.map TTold.cs)] := by rw [← hl]; rfl
 rw [hl] at hlen
 rw [hl, hcs]
 refine C1 Tryz.func128 rfl Tryz.ntmps128 rfl ?_
 refine A3 (A2 ?_)
 refine I2 rfl rfl rfl rfl (A0 rfl) ?_
 intro b2
 refine H4 rfl rfl rfl rfl Tryz.zeroValue141 rfl ?_
 intro b4
 refine A1 rfl (A8 rfl D8) ?_
 refine A4 (A3 (A3 (A2 ?_)))
 refine A1 rfl (B2 2 rfl D6 rfl K6 (A0 rfl) rfl) ?_
 refine A1 rfl (B0 1 rfl (A0 rfl) rfl L7 rfl) ?_
 refine A1 rfl (E4 rfl F0 (A0 rfl)) ?_
 refine A1 rfl (C3 rfl B3) ?_
 refine A4 (C5 ?_)
 refine G0 [(1, _), (4, _), (9, _), (10, _)] _ (fun (i : Nat) => i ≤ l.length ∧ ∀ j y, j < i → l[j]? = some y → (y.Txn == n) = false) (fun (i : Nat) => []) (fun (i : Nat) => [(11, AV.int i)]) (fun (i : Nat) => l.length - i) (0) ?_ (G1 ⟨rfl, rfl, rfl, rfl, rfl, trivial⟩) ?_
 ·exact ⟨Nat.zero_le _, fun j y hj => by omega⟩
 intro i hinv
 refine A3 (A2 ?_)
 refine A1 rfl (F8 rfl (A0 rfl) (A0 rfl)) ?_
 refine A4 (A3 ?_)
 refine B8 (A0 rfl) ?_ ?_
 ·intro h12
  have k12 := of_decide_eq_true h12; try simp only [A6] at k12
  have hlt : i < l.length := by omega
  obtain ⟨x, hx⟩ := get_some hlt
  refine B9 (A3 (C5 (A3 (A2 ?_))))
  refine A1 rfl (H8 rfl F0 E3 (A0 rfl) (A0 rfl) hx (by first | omega | (simp only [D1, B1, szR] at *; omega))) ?_
  refine A1 rfl (G8 rfl (A0 rfl) I5 E3) ?_
  refine H4 rfl rfl rfl rfl Tryz.zeroValue141 rfl ?_
  intro b7
  refine H1 0 rfl rfl rfl (A0 rfl) (A0 rfl) (I6 _) rfl E3 rfl ?_
  refine A4 (A3 (A2 ?_))
  refine A1 rfl (B2 0 rfl D5 rfl C2 (A0 rfl) rfl) ?_
  refine A1 rfl (B0 0 rfl (A0 rfl) rfl D0 rfl) ?_
  refine A5 rfl ?_
  refine A1 rfl (N1 rfl (A0 rfl) (A0 rfl)) ?_
  refine A4 ?_
  refine B8 (A0 rfl) ?_ ?_
  ·intro h18
   have k18 := O5 h18; try simp only [A6] at k18
   have he : heldFO l n = (x, true) := by (unfold heldFO findH; rw [w1 hx h18 hinv.2])
   rw [he]
   refine A3 (A2 ?_)
   refine A1 rfl (M0 0 rfl (A0 rfl) rfl I5 E3 rfl) ?_
   refine H1 1 rfl rfl rfl (A0 rfl) (A0 rfl) (I6 _) rfl E3 rfl ?_
   refine A1 rfl (A8 rfl D8) ?_
   refine A4 ?_
   refine B7 ?_
   exact W1 rfl (by decide) (K5 (U1 (ys := _) 1 rfl rfl I5 E3 rfl) (K5 (B6 rfl (by rfl)) Q9))
  intro h18
  have k18 := O4 h18; try simp only [A6] at k18
  refine B9 (A2 ?_)
  refine A1 rfl (G6 rfl (A0 rfl) B3 (by first | omega | (simp only [D1, B1, szR] at *; omega))) ?_
  refine A5 rfl ?_
  refine A4 ?_
  refine G9 i (i + 1) ?_ ?_ (N0 1 ⟨rfl, rfl, rfl, rfl, rfl, trivial⟩)
  ·exact ⟨by omega, fun j y hj hy => if hji : j < i then hinv.2 j y hji hy else (by have e : j = i := (by omega); subst e; rw [hx] at hy; injection hy with hy; subst hy; exact h18)⟩
  omega
 intro h12
 have k12 := of_decide_eq_false h12; try simp only [A6] at k12
 have hge : l.length ≤ i := by omega
 have he : heldFO l n = (zHeld, false) := by (unfold heldFO findH; rw [find_not fun j y hy => hinv.2 j y (Nat.lt_of_lt_of_le (List.getElem?_eq_some_iff.1 hy).1 hge) hy])
 rw [he]
 refine F3 ?_
 refine A3 (A2 ?_)
 refine A1 rfl (x4 (places := #[(0, 1), (1, 1), (2, 1), (3, 1), (4, 1)]) rfl D5 Tryz.zeroValue141 (fun w => by kernel_rfl) rfl Z1 rfl) ?_
 refine H1 0 rfl rfl rfl (A0 rfl) (A0 rfl) (I6 _) rfl E3 rfl ?_
 refine A1 rfl (A8 rfl D8) ?_
 refine A4 ?_
 refine B7 ?_
 refine p4 0 3 1 rfl rfl ?_
 refine p4 0 4 3 rfl rfl ?_
 exact W1 rfl (by decide) (K5 (U1 (ys := _) 0 rfl rfl I5 E3 rfl) (K5 (B6 rfl (by rfl)) Q9))
theorem AE7 (s : TState) (ho : CellsOk s.Cells) (hcl : s.Cells.length ≤ 400000) (hs : s.size ≤ 1048576) : FSpec Tryz.prog 126 [AV.agg s.cs] (AV.bool (areHeld s)) := by
 obtain ⟨hs1, hs2, hs3, hs4, hs5⟩ := U5 hs
 refine C1 Tryz.func126 rfl Tryz.ntmps126 rfl ?_
 refine A3 (A2 ?_)
 refine I2 rfl rfl rfl rfl (A0 rfl) ?_
 intro b1
 refine A1 rfl (A8 rfl D8) ?_
 refine A4 (A3 (A3 (A2 ?_)))
 refine A1 rfl (B2 2 rfl D6 rfl K6 (A0 rfl) rfl) ?_
 refine A1 rfl (B0 0 rfl (A0 rfl) rfl L7 rfl) ?_
 refine A1 rfl (E4 rfl F0 (A0 rfl)) ?_
 refine A1 rfl (C3 rfl B3) ?_
 refine A4 (C5 ?_)
 refine G0 [(1, _), (10, _), (11, _)] _ (fun (i : Nat) => i ≤ s.Held.length ∧ ∀ j, j < i → heldAt s j = true) (fun (i : Nat) => []) (fun (i : Nat) => [(12, AV.int i)]) (fun (i : Nat) => s.Held.length - i) (0) ?_ (G1 ⟨rfl, rfl, rfl, rfl, trivial⟩) ?_
 ·exact ⟨Nat.zero_le _, fun j hj => by omega⟩
 intro i hinv
 refine A3 (A2 ?_)
 refine A1 rfl (F8 rfl (A0 rfl) (A0 rfl)) ?_
 refine A4 (A3 ?_)
 refine B8 (A0 rfl) ?_ ?_
 ·intro h13
  have k13 := of_decide_eq_true h13; try simp only [A6] at k13
  have hlt : i < s.Held.length := by omega
  obtain ⟨h, hx⟩ := get_some hlt
  obtain ⟨y, hy⟩ := get_some (show i - 1 < s.Held.length by omega)
  obtain ⟨g1, g2, g3, g4, g5⟩ := Z4 hs2 hx
  have hinv0 := hinv
  refine B9 (A3 (C5 (A3 (A2 ?_))))
  refine A5 rfl ?_
  refine A1 rfl (H8 rfl F0 E3 (A0 rfl) (A0 rfl) hx (by first | omega | (simp only [D1, B1, szR] at *; omega))) ?_
  refine A1 rfl (G8 rfl (A0 rfl) I5 E3) ?_
  refine H4 rfl rfl rfl rfl Tryz.zeroValue141 rfl ?_
  intro b4
  refine B5 rfl ?_
  refine H1 0 rfl rfl rfl (A0 rfl) (A0 rfl) (I6 _) rfl E3 rfl ?_
  refine A4 (A3 (A3 ?_))
  refine H5 (by kernel_rfl) (by kernel_rfl) rfl ?_
  refine B4 rfl rfl (M0 0 rfl (A0 rfl) rfl I5 E3 rfl) ?_
  refine B4 rfl rfl (D4 rfl Tryz.call177 rfl (AE6 _) (A9 (A0 rfl) C6)) ?_
  refine B4 rfl rfl (D4 rfl Tryz.call106 rfl (AM6 _ (by first | assumption | omega)) (A9 (A0 rfl) C6)) ?_
  refine B4 rfl rfl (I3 rfl (A0 rfl)) ?_
  refine B4 rfl rfl (C3 rfl (A0 rfl)) ?_
  refine D3 rfl (F2 rfl rfl rfl) (fun hc => B2 1 rfl D5 rfl C2 (A0 rfl) rfl) ?_
  refine D3 rfl (F2 rfl rfl rfl) (fun hc => B0 0 rfl (A7 rfl hc) rfl D0 rfl) ?_
  refine D3 rfl (F2 rfl rfl rfl) (fun hc => B2 0 rfl D6 rfl C2 (A0 rfl) rfl) ?_
  refine D3 rfl (F2 rfl rfl rfl) (fun hc => B0 1 rfl (A7 rfl hc) rfl D0 rfl) ?_
  refine D3 rfl (F2 rfl rfl rfl) (fun hc => P8 rfl (A7 rfl hc) (A7 rfl hc)) ?_
  refine B4 rfl rfl (M5 rfl (A0 rfl) (E9 rfl)) ?_
  refine B4 rfl rfl (C3 rfl (A0 rfl)) ?_
  refine D3 rfl (F2 rfl rfl rfl) (fun hc => C3 rfl (A0 rfl)) ?_
  refine D3 rfl (F2 rfl rfl rfl) (fun hc => P8 rfl (A7 rfl hc) B3) ?_
  refine D3 rfl (F2 rfl rfl rfl) (fun hc => C3 rfl (A7 rfl hc)) ?_
  refine D3 rfl (C9 rfl rfl rfl) (fun hc => B2 2 rfl D6 rfl K6 (A0 rfl) rfl) ?_
  refine D3 rfl (C9 rfl rfl rfl) (fun hc => B0 1 rfl (A7 rfl hc) rfl L7 rfl) ?_
  refine D3 rfl (C9 rfl rfl rfl) (fun hc => C3 rfl (A0 rfl)) ?_
  refine D3 rfl (C9 rfl rfl rfl) (fun hc => L1 rfl (A7 rfl hc) B3 (by first | omega | ((try simp only [D1, B1, szR] at *); omega) | (have hc2 := hc; simp only [L4, beq_iff_eq, bne_iff_ne, A6, G2] at hc2; omega))) ?_
  refine D3 rfl (C9 rfl rfl rfl) (fun hc => H8 rfl F0 E3 (A7 rfl hc) (A7 rfl hc) hy (by first | omega | ((try simp only [D1, B1, szR] at *); omega) | (have hc2 := hc; simp only [L4, beq_iff_eq, bne_iff_ne, A6, G2] at hc2; omega))) ?_
  refine D3 rfl (C9 rfl rfl rfl) (fun hc => P9 rfl D5 rfl C2 (A7 rfl hc) rfl) ?_
  refine D3 rfl (C9 rfl rfl rfl) (fun hc => I9 rfl (A7 rfl hc) D0 rfl) ?_
  refine D3 rfl (C9 rfl rfl rfl) (fun hc => B2 0 rfl D5 rfl C2 (A0 rfl) rfl) ?_
  refine D3 rfl (C9 rfl rfl rfl) (fun hc => B0 0 rfl (A7 rfl hc) rfl D0 rfl) ?_
  refine D3 rfl (C9 rfl rfl rfl) (fun hc => R8 rfl (A7 rfl hc) (A7 rfl hc)) ?_
  refine D3 rfl (F2 rfl rfl rfl) (fun hc => G4 rfl (A7 rfl hc) (K4 rfl hc)) ?_
  refine B4 rfl rfl (M5 rfl (A0 rfl) (E9 rfl)) ?_
  refine M6 ?_
  refine B8 (A0 rfl) ?_ ?_
  ·intro h43
   have hfin : areHeld s = false := by (unfold areHeld; rw [Q0 hlt (by rw [c0 hx hy, h43]; rfl)]; rfl)
   refine A3 (A2 ?_)
   refine A1 rfl (A8 rfl D8) ?_
   refine A4 ?_
   refine B7 ?_
   exact D7 rfl (B6 rfl (by first | exact congrArg AV.bool hfin.symm | exact congrArg AV.bool (by unfold areHeld; rw [hall, Bool.true_and, List.nil_append, A6]; congr 1; rw [decide_eq_decide]; omega)))
  intro h43
  refine B9 (A3 (A3 (A2 ?_)))
  refine A1 rfl (B2 2 rfl D6 rfl K6 (A0 rfl) rfl) ?_
  refine A1 rfl (B0 1 rfl (A0 rfl) rfl L7 rfl) ?_
  refine A5 rfl ?_
  refine A1 rfl (AB2 rfl F0 E3 (A0 rfl) (A0 rfl) (by first | omega | (simp only [D1, B1, szR] at *; omega)) (by first | omega | (simp only [D1, B1, szR] at *; omega))) ?_
  refine A1 rfl (E4 rfl F0 (A0 rfl)) ?_
  refine A1 rfl (C3 rfl B3) ?_
  refine A4 (C5 ?_)
  refine G0 [(1, _), (3, _), (4, _), (10, _), (11, _), (12, _), (13, _), (14, _), (15, _), (16, _), (17, _), (18, _), (19, _), (20, _), (21, _), (27, _), (28, _), (43, _), (44, _), (45, _), (46, _), (47, _), (48, _)] _ (fun (q : Nat) => q ≤ (s.Held.take i).length ∧ ((s.Held.take i).all fun g => apart g h.Reads h.Writes) = (((s.Held.take i).drop q).all fun g => apart g h.Reads h.Writes)) (fun (q : Nat) => []) (fun (q : Nat) => [(49, AV.int q)]) (fun (q : Nat) => (s.Held.take i).length - q) (0) ?_ (G1 ⟨rfl, rfl, rfl, rfl, rfl, rfl, rfl, rfl, rfl, rfl, rfl, rfl, rfl, rfl, rfl, rfl, rfl, rfl, rfl, rfl, rfl, rfl, rfl, rfl, trivial⟩) ?_
  ·exact ⟨Nat.zero_le _, rfl⟩
  intro q hinv
  refine A3 (A2 ?_)
  refine A1 rfl (F8 rfl (A0 rfl) (A0 rfl)) ?_
  refine A4 (A3 ?_)
  refine B8 (A0 rfl) ?_ ?_
  ·intro h50
   have k50 := of_decide_eq_true h50; try simp only [A6] at k50
   have hlt2 : q < (s.Held.take i).length := by (simp only [G2, A6, Int.toNat_natCast] at k50 ⊢; omega)
   obtain ⟨k, hx2⟩ := get_some hlt2
   refine B9 (A3 (C5 (A3 (A2 ?_))))
   refine A1 rfl (H8 rfl F0 E3 (A0 rfl) (A0 rfl) hx2 (by first | omega | (simp only [D1, B1, szR] at *; omega))) ?_
   refine A1 rfl (G8 rfl (A0 rfl) I5 E3) ?_
   refine H4 rfl rfl rfl rfl Tryz.zeroValue141 rfl ?_
   intro b6
   refine H1 0 rfl rfl rfl (A0 rfl) (A0 rfl) (I6 _) rfl E3 rfl ?_
   refine A4 (A3 (A2 ?_))
   refine A1 rfl (M0 0 rfl (A0 rfl) rfl I5 E3 rfl) ?_
   refine A1 rfl (B2 3 rfl D5 rfl J2 (A0 rfl) rfl) ?_
   refine A1 rfl (B0 1 rfl (A0 rfl) rfl K3 rfl) ?_
   refine A1 rfl (B2 4 rfl D5 rfl H7 (A0 rfl) rfl) ?_
   refine A1 rfl (B0 1 rfl (A0 rfl) rfl I4 rfl) ?_
   refine A1 rfl (D4 rfl Tryz.call178 rfl (apart_spec _ _ _) (A9 (A0 rfl) (A9 (A0 rfl) (A9 (A0 rfl) C6)))) ?_
   refine A1 rfl (I3 rfl (A0 rfl)) ?_
   refine A4 ?_
   refine B8 (A0 rfl) ?_ ?_
   ·intro h59
    have hfin : areHeld s = false := by (unfold areHeld; rw [Q0 hlt (by rw [c0 hx hy, hinv.2, drop_some hx2, List.all_cons, show apart k h.Reads h.Writes = false by simpa using h59]; simp)]; rfl)
    refine A3 (A2 ?_)
    refine A1 rfl (A8 rfl D8) ?_
    refine A4 ?_
    refine B7 ?_
    exact D7 rfl (B6 rfl (by first | exact congrArg AV.bool hfin.symm | exact congrArg AV.bool (by unfold areHeld; rw [hall, Bool.true_and, List.nil_append, A6]; congr 1; rw [decide_eq_decide]; omega)))
   intro h59
   refine B9 (A2 ?_)
   refine A1 rfl (G6 rfl (A0 rfl) B3 (by first | omega | (simp only [D1, B1, szR] at *; omega))) ?_
   refine A5 rfl ?_
   refine A4 ?_
   refine G9 q (q + 1) ?_ ?_ (N0 1 ⟨rfl, rfl, rfl, rfl, rfl, rfl, rfl, rfl, rfl, rfl, rfl, rfl, rfl, rfl, rfl, rfl, rfl, rfl, rfl, rfl, rfl, rfl, rfl, rfl, trivial⟩)
   ·exact ⟨by omega, by rw [hinv.2, drop_some hx2, List.all_cons, show apart k h.Reads h.Writes = true by simpa using h59]; rfl⟩
   omega
  intro h50
  have k50 := of_decide_eq_false h50; try simp only [A6] at k50
  have hge2 : (s.Held.take i).length ≤ q := by (simp only [G2, A6, Int.toNat_natCast] at k50 ⊢; omega)
  have hap : ((s.Held.take i).all fun g => apart g h.Reads h.Writes) = true := by (rw [hinv.2, List.drop_eq_nil_of_le hge2]; rfl)
  refine F3 ?_
  refine A3 (A2 ?_)
  refine A1 rfl (B2 4 rfl D5 rfl H7 (A0 rfl) rfl) ?_
  refine A1 rfl (B0 0 rfl (A0 rfl) rfl I4 rfl) ?_
  refine A1 rfl (E4 rfl E6 (A0 rfl)) ?_
  refine A1 rfl (C3 rfl B3) ?_
  refine A4 (C5 ?_)
  refine G0 [(1, _), (3, _), (4, _), (10, _), (11, _), (12, _), (13, _), (14, _), (15, _), (16, _), (17, _), (18, _), (19, _), (20, _), (21, _), (27, _), (28, _), (43, _), (44, _), (45, _), (46, _), (47, _), (48, _), (49, _), (50, _), (61, _), (62, _), (63, _)] _ (fun (r : Nat) => r ≤ h.Writes.length ∧ (h.Writes.all fun w => decide (lastTime s.Cells w.Key < h.Time)) = ((h.Writes.drop r).all fun w => decide (lastTime s.Cells w.Key < h.Time))) (fun (r : Nat) => []) (fun (r : Nat) => [(64, AV.int r)]) (fun (r : Nat) => h.Writes.length - r) (0) ?_ (G1 ⟨rfl, rfl, rfl, rfl, rfl, rfl, rfl, rfl, rfl, rfl, rfl, rfl, rfl, rfl, rfl, rfl, rfl, rfl, rfl, rfl, rfl, rfl, rfl, rfl, rfl, rfl, rfl, rfl, rfl, trivial⟩) ?_
  ·exact ⟨Nat.zero_le _, rfl⟩
  intro r hinv
  refine A3 (A2 ?_)
  refine A1 rfl (F8 rfl (A0 rfl) (A0 rfl)) ?_
  refine A4 (A3 ?_)
  refine B8 (A0 rfl) ?_ ?_
  ·intro h65
   have k65 := of_decide_eq_true h65; try simp only [A6] at k65
   have hlt3 : r < h.Writes.length := by omega
   obtain ⟨w, hw⟩ := get_some hlt3
   refine B9 (A3 (C5 (A3 (A2 ?_))))
   refine A1 rfl (H8 rfl E6 F7 (A0 rfl) (A0 rfl) hw (by first | omega | (simp only [D1, B1, szR] at *; omega))) ?_
   refine A1 rfl (G8 rfl (A0 rfl) L5 F7) ?_
   refine H4 rfl rfl rfl rfl Tryz.zeroValue101 rfl ?_
   intro b8
   refine H1 0 rfl rfl rfl (A0 rfl) (A0 rfl) (I6 _) rfl F7 rfl ?_
   refine A4 (A3 ?_)
   refine H5 (by kernel_rfl) (by kernel_rfl) rfl ?_
   refine B4 rfl rfl (B2 1 rfl D6 rfl J9 (A0 rfl) rfl) ?_
   refine B4 rfl rfl (B0 2 rfl (A0 rfl) rfl L3 rfl) ?_
   refine B4 rfl rfl (B2 0 rfl F5 rfl D2 (A0 rfl) rfl) ?_
   refine B4 rfl rfl (B0 0 rfl (A0 rfl) rfl E5 rfl) ?_
   refine B4 rfl rfl (D4 rfl Tryz.call127 rfl (o9 _ _ (by first | assumption | exact Q2 (by rw [Q1]; assumption)) (by first | assumption | omega)) (A9 (A0 rfl) (A9 (A0 rfl) C6))) ?_
   refine B4 rfl rfl (B2 1 rfl D5 rfl C2 (A0 rfl) rfl) ?_
   refine B4 rfl rfl (B0 1 rfl (A0 rfl) rfl D0 rfl) ?_
   refine B4 rfl rfl (R8 rfl (A0 rfl) (A0 rfl)) ?_
   refine M6 ?_
   refine B8 (A0 rfl) ?_ ?_
   ·intro h75
    have k75 := of_decide_eq_true h75; try simp only [A6] at k75
    have hfin : areHeld s = false := by (unfold areHeld; rw [Q0 hlt (by rw [c0 hx hy, hinv.2, drop_some hw, List.all_cons, decide_eq_false (show ¬ lastTime s.Cells w.Key < h.Time by omega)]; simp)]; rfl)
    refine A3 (A2 ?_)
    refine A1 rfl (A8 rfl D8) ?_
    refine A4 ?_
    refine B7 ?_
    exact D7 rfl (B6 rfl (by first | exact congrArg AV.bool hfin.symm | exact congrArg AV.bool (by unfold areHeld; rw [hall, Bool.true_and, List.nil_append, A6]; congr 1; rw [decide_eq_decide]; omega)))
   intro h75
   have k75 := of_decide_eq_false h75; try simp only [A6] at k75
   refine B9 (A2 ?_)
   refine A1 rfl (G6 rfl (A0 rfl) B3 (by first | omega | (simp only [D1, B1, szR] at *; omega))) ?_
   refine A5 rfl ?_
   refine A4 ?_
   refine G9 r (r + 1) ?_ ?_ (N0 1 ⟨rfl, rfl, rfl, rfl, rfl, rfl, rfl, rfl, rfl, rfl, rfl, rfl, rfl, rfl, rfl, rfl, rfl, rfl, rfl, rfl, rfl, rfl, rfl, rfl, rfl, rfl, rfl, rfl, rfl, trivial⟩)
   ·exact ⟨by omega, by rw [hinv.2, drop_some hw, List.all_cons, decide_eq_true (show lastTime s.Cells w.Key < h.Time by omega)]; rfl⟩
   omega
  intro h65
  have k65 := of_decide_eq_false h65; try simp only [A6] at k65
  have hge3 : h.Writes.length ≤ r := by omega
  have hlw : (h.Writes.all fun w => decide (lastTime s.Cells w.Key < h.Time)) = true := by (rw [hinv.2, List.drop_eq_nil_of_le hge3]; rfl)
  refine F3 ?_
  refine A2 ?_
  refine A1 rfl (G6 rfl (A0 rfl) B3 (by first | omega | (simp only [D1, B1, szR] at *; omega))) ?_
  refine A5 rfl ?_
  refine A4 ?_
  refine G9 i (i + 1) ?_ ?_ (N0 1 ⟨rfl, rfl, rfl, rfl, trivial⟩)
  ·exact ⟨by omega, fun j hj => if hji : j < i then hinv0.2 j hji else (by have e : j = i := (by omega); subst e; rw [c0 hx hy, h43, hap, hlw]; rfl)⟩
  omega
 intro h13
 have k13 := of_decide_eq_false h13; try simp only [A6] at k13
 have hge : s.Held.length ≤ i := by omega
 have hall : allB s.Held.length (heldAt s) = true := V3.2 fun j hj => hinv.2 j (by omega)
 refine F3 ?_
 refine A3 (A2 ?_)
 refine A1 rfl (B2 2 rfl D6 rfl K6 (A0 rfl) rfl) ?_
 refine A1 rfl (B0 0 rfl (A0 rfl) rfl L7 rfl) ?_
 refine A1 rfl (E4 rfl F0 (A0 rfl)) ?_
 refine A1 rfl (O6 rfl (A0 rfl) B3) ?_
 refine A5 rfl ?_
 refine C4 rfl (fun hc => M0 0 rfl (A0 rfl) rfl L0 I1 rfl) ?_
 refine C4 rfl (fun hc => D4 rfl Tryz.call179 rfl (AR5 s [] hs (by (have h9 := AD0 (AR6 hall); have h8 := of_decide_eq_true hc; simp only [A6] at h8; simp only [f4]; omega))) (A9 (A7 rfl hc) (A9 V5 C6))) ?_
 refine A1 rfl (G4 rfl (A0 rfl) (E9 rfl)) ?_
 refine B5 rfl ?_
 refine A4 ?_
 refine B7 ?_
 exact D7 rfl (B6 rfl (by first | exact congrArg AV.bool hfin.symm | exact congrArg AV.bool (by unfold areHeld; rw [hall, Bool.true_and, List.nil_append, A6]; congr 1; rw [decide_eq_decide]; omega)))
theorem w4 (s : TState) (hs : s.size ≤ 1048576) : FSpec Tryz.prog 80 [AV.agg s.cs] (AV.bool (goodState s)) := by
 obtain ⟨hs1, hs2, hs3, hs4, hs5⟩ := U5 hs
 refine C1 Tryz.func80 rfl Tryz.ntmps80 rfl ?_
 refine A3 (A2 ?_)
 refine I2 rfl rfl rfl rfl (A0 rfl) ?_
 intro b1
 refine A1 rfl (A8 rfl D8) ?_
 refine A4 (A3 (A3 (A2 ?_)))
 refine A1 rfl (B2 0 rfl D6 rfl C2 (A0 rfl) rfl) ?_
 refine A1 rfl (B0 0 rfl (A0 rfl) rfl D0 rfl) ?_
 refine A1 rfl (D4 rfl Tryz.call124 rfl (AL0 _) (A9 (A0 rfl) C6)) ?_
 refine A1 rfl (I3 rfl (A0 rfl)) ?_
 refine A5 rfl ?_
 refine I0 rfl (fun hc => B2 1 rfl D6 rfl J9 (A0 rfl) rfl) ?_
 refine I0 rfl (fun hc => B0 0 rfl (A7 rfl hc) rfl L3 rfl) ?_
 refine I0 rfl (fun hc => D4 rfl Tryz.call125 rfl (AL3 _ (by first | assumption | omega)) (A9 (A7 rfl hc) C6)) ?_
 refine I0 rfl (fun hc => I3 rfl (A7 rfl hc)) ?_
 refine A1 rfl (M5 rfl (A0 rfl) (E9 rfl)) ?_
 refine A5 rfl ?_
 refine I0 rfl (fun hc => M0 0 rfl (A0 rfl) rfl L0 I1 rfl) ?_
 refine I0 rfl (fun hc => D4 rfl Tryz.call126 rfl (AE7 s (Q2 (by have h9 := hc; simp at h9; rw [Q1]; exact h9.2)) (by have h9 := hc; simp at h9; have h8 := (U7 (by rw [Q1]; exact h9.2)).1; omega) hs) (A9 (A7 rfl hc) C6)) ?_
 refine I0 rfl (fun hc => I3 rfl (A7 rfl hc)) ?_
 refine A1 rfl (M5 rfl (A0 rfl) (E9 rfl)) ?_
 refine A5 rfl ?_
 refine I0 rfl (fun hc => B2 3 rfl D6 rfl N7 (A0 rfl) rfl) ?_
 refine I0 rfl (fun hc => B0 0 rfl (A7 rfl hc) rfl Q7 rfl) ?_
 refine I0 rfl (fun hc => E4 rfl J1 (A7 rfl hc)) ?_
 refine I0 rfl (fun hc => P8 rfl (A7 rfl hc) B3) ?_
 refine A1 rfl (M5 rfl (A0 rfl) (E9 rfl)) ?_
 refine A4 ?_
 refine B8 (A0 rfl) ?_ ?_
 ·intro h29
  have hfin : goodState s = false := by (unfold goodState; simp only [Bool.or_eq_true, Bool.not_eq_true', decide_eq_true_eq, A6] at h29; rcases h29 with ((h | h) | h) | h; (rw [h]; rfl); (rw [Q1, h]; simp); (rw [h]; simp); (rw [decide_eq_false (show ¬ s.Told.length ≤ 60 by omega)]; simp))
  refine A3 (A2 ?_)
  refine A1 rfl (A8 rfl D8) ?_
  refine A4 ?_
  refine B7 ?_
  exact D7 rfl (B6 rfl (by exact congrArg AV.bool hfin.symm))
 intro h29
 simp only [Bool.or_eq_false_iff, Bool.not_eq_false', decide_eq_false_iff_not, A6] at h29
 obtain ⟨⟨⟨q1, q2⟩, q3⟩, q4⟩ := h29
 have hco := Q2 (by rw [Q1]; exact q2)
 have hgs : goodState s = ((s.Cells.all fun c => decide (lastTime s.Cells c.Key ≤ s.Floor)) && allB s.Told.length (toldAt s)) := by (unfold goodState; rw [q1, Q1, q2, q3, decide_eq_true (show s.Told.length ≤ 60 by omega)]; simp)
 refine B9 (A3 (A3 (A2 ?_)))
 refine A1 rfl (B2 1 rfl D6 rfl J9 (A0 rfl) rfl) ?_
 refine A1 rfl (B0 0 rfl (A0 rfl) rfl L3 rfl) ?_
 refine A1 rfl (E4 rfl F1 (A0 rfl)) ?_
 refine A1 rfl (C3 rfl B3) ?_
 refine A4 (C5 ?_)
 refine G0 [(1, _), (31, _), (32, _)] _ (fun (i : Nat) => i ≤ s.Cells.length ∧ (s.Cells.all fun c => decide (lastTime s.Cells c.Key ≤ s.Floor)) = ((s.Cells.drop i).all fun c => decide (lastTime s.Cells c.Key ≤ s.Floor))) (fun (i : Nat) => []) (fun (i : Nat) => [(33, AV.int i)]) (fun (i : Nat) => s.Cells.length - i) (0) ?_ (G1 ⟨rfl, rfl, rfl, rfl, trivial⟩) ?_
 ·exact ⟨Nat.zero_le _, rfl⟩
 intro i hinv
 refine A3 (A2 ?_)
 refine A1 rfl (F8 rfl (A0 rfl) (A0 rfl)) ?_
 refine A4 (A3 ?_)
 refine B8 (A0 rfl) ?_ ?_
 ·intro h34
  have k34 := of_decide_eq_true h34; try simp only [A6] at k34
  have hlt : i < s.Cells.length := by omega
  obtain ⟨c, hx⟩ := get_some hlt
  refine B9 (A3 (C5 (A3 (A2 ?_))))
  refine A1 rfl (H8 rfl F1 E8 (A0 rfl) (A0 rfl) hx (by first | omega | (simp only [D1, B1, szR] at *; omega))) ?_
  refine A1 rfl (G8 rfl (A0 rfl) L2 E8) ?_
  refine H4 rfl rfl rfl rfl Tryz.zeroValue125 rfl ?_
  intro b4
  refine H1 0 rfl rfl rfl (A0 rfl) (A0 rfl) (I6 _) rfl E8 rfl ?_
  refine A4 (A3 ?_)
  refine H5 (by kernel_rfl) (by kernel_rfl) rfl ?_
  refine B4 rfl rfl (B2 1 rfl D6 rfl J9 (A0 rfl) rfl) ?_
  refine B4 rfl rfl (B0 1 rfl (A0 rfl) rfl L3 rfl) ?_
  refine B4 rfl rfl (B2 0 rfl F6 rfl D2 (A0 rfl) rfl) ?_
  refine B4 rfl rfl (B0 0 rfl (A0 rfl) rfl E5 rfl) ?_
  refine B4 rfl rfl (D4 rfl Tryz.call127 rfl (o9 _ _ (by first | assumption | exact Q2 (by rw [Q1]; assumption)) (by first | assumption | omega)) (A9 (A0 rfl) (A9 (A0 rfl) C6))) ?_
  refine B4 rfl rfl (B2 0 rfl D6 rfl C2 (A0 rfl) rfl) ?_
  refine B4 rfl rfl (B0 1 rfl (A0 rfl) rfl D0 rfl) ?_
  refine B4 rfl rfl (P8 rfl (A0 rfl) (A0 rfl)) ?_
  refine M6 ?_
  refine B8 (A0 rfl) ?_ ?_
  ·intro h44
   have k44 := of_decide_eq_true h44; try simp only [A6] at k44
   have hfin : goodState s = false := by (rw [hgs, hinv.2, drop_some hx, List.all_cons, decide_eq_false (show ¬ lastTime s.Cells c.Key ≤ s.Floor by omega)]; rfl)
   refine A3 (A2 ?_)
   refine A1 rfl (A8 rfl D8) ?_
   refine A4 ?_
   refine B7 ?_
   exact D7 rfl (B6 rfl (by exact congrArg AV.bool hfin.symm))
  intro h44
  have k44 := of_decide_eq_false h44; try simp only [A6] at k44
  refine B9 (A2 ?_)
  refine A1 rfl (G6 rfl (A0 rfl) B3 (by first | omega | (simp only [D1, B1, szR] at *; omega))) ?_
  refine A5 rfl ?_
  refine A4 ?_
  refine G9 i (i + 1) ?_ ?_ (N0 1 ⟨rfl, rfl, rfl, rfl, trivial⟩)
  ·exact ⟨by omega, by rw [hinv.2, drop_some hx, List.all_cons, decide_eq_true (show lastTime s.Cells c.Key ≤ s.Floor by omega)]; rfl⟩
  omega
 intro h34
 have k34 := of_decide_eq_false h34; try simp only [A6] at k34
 have hge : s.Cells.length ≤ i := by omega
 have hgs2 : goodState s = allB s.Told.length (toldAt s) := by (rw [hgs, hinv.2, List.drop_eq_nil_of_le hge]; rfl)
 refine F3 ?_
 refine A3 (A3 (A2 ?_))
 refine A1 rfl (B2 3 rfl D6 rfl N7 (A0 rfl) rfl) ?_
 refine A1 rfl (B0 0 rfl (A0 rfl) rfl Q7 rfl) ?_
 refine A1 rfl (E4 rfl J1 (A0 rfl)) ?_
 refine A1 rfl (C3 rfl B3) ?_
 refine A4 (C5 ?_)
 refine G0 [(1, _), (47, _), (48, _)] _ (fun (q : Nat) => q ≤ s.Told.length ∧ ∀ j, j < q → toldAt s j = true) (fun (q : Nat) => []) (fun (q : Nat) => [(49, AV.int q)]) (fun (q : Nat) => s.Told.length - q) (0) ?_ (G1 ⟨rfl, rfl, rfl, rfl, trivial⟩) ?_
 ·exact ⟨Nat.zero_le _, fun j hj => by omega⟩
 intro q hinv
 refine A3 (A2 ?_)
 refine A1 rfl (F8 rfl (A0 rfl) (A0 rfl)) ?_
 refine A4 (A3 ?_)
 refine B8 (A0 rfl) ?_ ?_
 ·intro h50
  have k50 := of_decide_eq_true h50; try simp only [A6] at k50
  have hlt : q < s.Told.length := by omega
  obtain ⟨t, hx⟩ := get_some hlt
  obtain ⟨y, hy⟩ := get_some (show q - 1 < s.Told.length by omega)
  refine B9 (A3 (C5 (A3 (A2 ?_))))
  refine A5 rfl ?_
  refine A1 rfl (H8 rfl J1 J6 (A0 rfl) (A0 rfl) hx (by first | omega | (simp only [D1, B1, szR] at *; omega))) ?_
  refine A1 rfl (G8 rfl (A0 rfl) T0 J6) ?_
  refine H4 rfl rfl rfl rfl Tryz.zeroValue144 rfl ?_
  intro b6
  refine B5 rfl ?_
  refine H1 0 rfl rfl rfl (A0 rfl) (A0 rfl) (I6 _) rfl J6 rfl ?_
  refine A4 (A3 (A3 ?_))
  refine H5 (by kernel_rfl) (by kernel_rfl) rfl ?_
  refine B4 rfl rfl (B2 0 rfl G5 rfl C2 (A0 rfl) rfl) ?_
  refine B4 rfl rfl (B0 0 rfl (A0 rfl) rfl D0 rfl) ?_
  refine B4 rfl rfl (D4 rfl Tryz.call39 rfl (P7 _ _ _) (A9 (A0 rfl) (A9 B3 (A9 B3 C6)))) ?_
  refine B4 rfl rfl (I3 rfl (A0 rfl)) ?_
  refine B4 rfl rfl (C3 rfl (A0 rfl)) ?_
  refine D3 rfl (F2 rfl rfl rfl) (fun hc => C3 rfl (A0 rfl)) ?_
  refine D3 rfl (F2 rfl rfl rfl) (fun hc => P8 rfl (A7 rfl hc) B3) ?_
  refine D3 rfl (F2 rfl rfl rfl) (fun hc => C3 rfl (A7 rfl hc)) ?_
  refine D3 rfl (C9 rfl rfl rfl) (fun hc => B2 3 rfl D6 rfl N7 (A0 rfl) rfl) ?_
  refine D3 rfl (C9 rfl rfl rfl) (fun hc => B0 1 rfl (A7 rfl hc) rfl Q7 rfl) ?_
  refine D3 rfl (C9 rfl rfl rfl) (fun hc => C3 rfl (A0 rfl)) ?_
  refine D3 rfl (C9 rfl rfl rfl) (fun hc => L1 rfl (A7 rfl hc) B3 (by first | omega | ((try simp only [D1, B1, szR] at *); omega) | (have hc2 := hc; simp only [L4, beq_iff_eq, bne_iff_ne, A6, G2] at hc2; omega))) ?_
  refine D3 rfl (C9 rfl rfl rfl) (fun hc => H8 rfl J1 J6 (A7 rfl hc) (A7 rfl hc) hy (by first | omega | ((try simp only [D1, B1, szR] at *); omega) | (have hc2 := hc; simp only [L4, beq_iff_eq, bne_iff_ne, A6, G2] at hc2; omega))) ?_
  refine D3 rfl (C9 rfl rfl rfl) (fun hc => P9 rfl G5 rfl C2 (A7 rfl hc) rfl) ?_
  refine D3 rfl (C9 rfl rfl rfl) (fun hc => I9 rfl (A7 rfl hc) D0 rfl) ?_
  refine D3 rfl (C9 rfl rfl rfl) (fun hc => B2 0 rfl G5 rfl C2 (A0 rfl) rfl) ?_
  refine D3 rfl (C9 rfl rfl rfl) (fun hc => B0 0 rfl (A7 rfl hc) rfl D0 rfl) ?_
  refine D3 rfl (C9 rfl rfl rfl) (fun hc => R8 rfl (A7 rfl hc) (A7 rfl hc)) ?_
  refine D3 rfl (F2 rfl rfl rfl) (fun hc => G4 rfl (A7 rfl hc) (K4 rfl hc)) ?_
  refine B4 rfl rfl (M5 rfl (A0 rfl) (E9 rfl)) ?_
  refine B4 rfl rfl (C3 rfl (A0 rfl)) ?_
  refine D3 rfl (F2 rfl rfl rfl) (fun hc => B2 1 rfl G5 rfl G7 (A0 rfl) rfl) ?_
  refine D3 rfl (F2 rfl rfl rfl) (fun hc => B0 0 rfl (A7 rfl hc) rfl H9 rfl) ?_
  refine D3 rfl (F2 rfl rfl rfl) (fun hc => C3 rfl (A7 rfl hc)) ?_
  refine D3 rfl (C9 rfl rfl rfl) (fun hc => B2 2 rfl G5 rfl C2 (A0 rfl) rfl) ?_
  refine D3 rfl (C9 rfl rfl rfl) (fun hc => B0 0 rfl (A7 rfl hc) rfl D0 rfl) ?_
  refine D3 rfl (C9 rfl rfl rfl) (fun hc => B2 0 rfl D6 rfl C2 (A0 rfl) rfl) ?_
  refine D3 rfl (C9 rfl rfl rfl) (fun hc => B0 1 rfl (A7 rfl hc) rfl D0 rfl) ?_
  refine D3 rfl (C9 rfl rfl rfl) (fun hc => D4 rfl Tryz.call39 rfl (P7 _ _ _) (A9 (A7 rfl hc) (A9 B3 (A9 (A7 rfl hc) C6)))) ?_
  refine D3 rfl (C9 rfl rfl rfl) (fun hc => I3 rfl (A7 rfl hc)) ?_
  refine D3 rfl (F2 rfl rfl rfl) (fun hc => G4 rfl (A7 rfl hc) (K4 rfl hc)) ?_
  refine B4 rfl rfl (M5 rfl (A0 rfl) (E9 rfl)) ?_
  refine B4 rfl rfl (C3 rfl (A0 rfl)) ?_
  refine D3 rfl (F2 rfl rfl rfl) (fun hc => B2 1 rfl G5 rfl G7 (A0 rfl) rfl) ?_
  refine D3 rfl (F2 rfl rfl rfl) (fun hc => B0 0 rfl (A7 rfl hc) rfl H9 rfl) ?_
  refine D3 rfl (F2 rfl rfl rfl) (fun hc => I3 rfl (A7 rfl hc)) ?_
  refine D3 rfl (F2 rfl rfl rfl) (fun hc => C3 rfl (A7 rfl hc)) ?_
  refine D3 rfl (C9 rfl rfl rfl) (fun hc => B2 2 rfl G5 rfl C2 (A0 rfl) rfl) ?_
  refine D3 rfl (C9 rfl rfl rfl) (fun hc => B0 0 rfl (A7 rfl hc) rfl D0 rfl) ?_
  refine D3 rfl (C9 rfl rfl rfl) (fun hc => Q4 rfl (A7 rfl hc) B3) ?_
  refine D3 rfl (F2 rfl rfl rfl) (fun hc => G4 rfl (A7 rfl hc) (K4 rfl hc)) ?_
  refine B4 rfl rfl (M5 rfl (A0 rfl) (E9 rfl)) ?_
  refine M6 ?_
  refine B8 (A0 rfl) ?_ ?_
  ·intro h95
   have hfin : goodState s = false := by (rw [hgs2]; exact Q0 hlt (by rw [j3 hx hy, h95]; rfl))
   refine A3 (A2 ?_)
   refine A1 rfl (A8 rfl D8) ?_
   refine A4 ?_
   refine B7 ?_
   exact D7 rfl (B6 rfl (by exact congrArg AV.bool hfin.symm))
  intro h95
  refine B9 (A3 (A2 ?_))
  refine A1 rfl (M0 1 rfl (A0 rfl) rfl L0 I1 rfl) ?_
  refine A1 rfl (B2 0 rfl G5 rfl C2 (A0 rfl) rfl) ?_
  refine A1 rfl (B0 0 rfl (A0 rfl) rfl D0 rfl) ?_
  refine A1 rfl (D4 rfl Tryz.call128 rfl (AJ2 _ _ (by first | assumption | omega)) (A9 (A0 rfl) (A9 (A0 rfl) C6))) ?_
  refine A5 rfl ?_
  refine A1 rfl (K8 rfl (A0 rfl) rfl) ?_
  refine A1 rfl (K8 rfl (A0 rfl) rfl) ?_
  refine H4 rfl rfl rfl rfl Tryz.zeroValue141 rfl ?_
  intro b7
  refine H1 0 rfl rfl rfl (A0 rfl) (A0 rfl) (I6 _) rfl E3 rfl ?_
  refine B5 rfl ?_
  refine A4 (A3 (A2 ?_))
  refine A5 rfl ?_
  refine A4 ?_
  refine B8 (A0 rfl) ?_ ?_
  ·intro h103
   have hfin : goodState s = false := by (rw [hgs2]; exact Q0 hlt (by rw [j3 hx hy, ← AC9, h103]; simp))
   refine A3 (A2 ?_)
   refine A1 rfl (A8 rfl D8) ?_
   refine A4 ?_
   refine B7 ?_
   exact D7 rfl (B6 rfl (by exact congrArg AV.bool hfin.symm))
  intro h103
  refine B9 (A2 ?_)
  refine A1 rfl (G6 rfl (A0 rfl) B3 (by first | omega | (simp only [D1, B1, szR] at *; omega))) ?_
  refine A5 rfl ?_
  refine A4 ?_
  refine G9 q (q + 1) ?_ ?_ (N0 2 ⟨rfl, rfl, rfl, rfl, trivial⟩)
  ·exact ⟨by omega, fun j hj => if hji : j < q then hinv.2 j hji else (by have e : j = q := (by omega); subst e; rw [j3 hx hy, h95, ← AC9, h103]; rfl)⟩
  omega
 intro h50
 have k50 := of_decide_eq_false h50; try simp only [A6] at k50
 have hge : s.Told.length ≤ q := by omega
 have hfin : goodState s = true := by (rw [hgs2]; exact V3.2 fun j hj => hinv.2 j (by omega))
 refine F3 ?_
 refine A3 (A2 ?_)
 refine A1 rfl (A8 rfl D8) ?_
 refine A4 ?_
 refine B7 ?_
 exact D7 rfl (B6 rfl (by exact congrArg AV.bool hfin.symm))
end Go.Proofs.YtkegepoihkhihaaGreat

namespace Go.Proofs.YtkegepoihkhihaaGreat
open Go Go.AV Go.M
attribute [local irreducible] OpW OpA OpS AWP FSpec ESpec GSpec OpE RetOk RetOkG RvDen Le Ev GuardIs SrcIs
end Go.Proofs.YtkegepoihkhihaaGreat

namespace Go.Proofs.YtkegepoihkhihaaGreat
open Go Go.AV Go.M
attribute [local irreducible] OpW OpA OpS AWP FSpec ESpec GSpec OpE RetOk RetOkG RvDen Le Ev GuardIs
end Go.Proofs.YtkegepoihkhihaaGreat

namespace Go.Proofs.YtkegepoihkhihaaGreat
open Go Go.AV Go.M
attribute [local irreducible] OpW OpA OpS AWP FSpec ESpec GSpec OpE RetOk RetOkG RvDen Le Ev GuardIs SrcIs
theorem n3 (a b : Int) : FSpec Tryz.prog 38 [AV.int a, AV.int b] (AV.int (leastI a b)) := by
 refine C1 Tryz.func38 rfl Tryz.ntmps38 rfl ?_
 refine A3 (A2 ?_)
 refine A1 rfl (A8 rfl B3) ?_
 refine A4 (A3 (A3 (A2 ?_)))
 refine A5 rfl ?_
 refine A5 rfl ?_
 refine A1 rfl (F8 rfl (A0 rfl) (A0 rfl)) ?_
 refine A4 ?_
 refine B8 (A0 rfl) ?_ ?_
 ·intro h7
  have k7 := of_decide_eq_true h7; try simp only [A6] at k7
  have he : leastI a b = a := by unfold leastI; rw [if_pos k7]
  rw [he]
  refine A3 (A2 ?_)
  refine A5 rfl ?_
  refine B5 rfl ?_
  refine A4 ?_
  refine B7 ?_
  exact D7 rfl (B6 rfl (by first | rfl | (refine congrArg AV.bool ?_; simp_all; done)))
 intro h7
 have k7 := of_decide_eq_false h7; try simp only [A6] at k7
 have he : leastI a b = b := by unfold leastI; rw [if_neg k7]
 rw [he]
 refine B9 (A3 (A2 ?_))
 refine A5 rfl ?_
 refine B5 rfl ?_
 refine A4 ?_
 refine B7 ?_
 exact D7 rfl (B6 rfl (by first | rfl | (refine congrArg AV.bool ?_; simp_all; done)))
end Go.Proofs.YtkegepoihkhihaaGreat

set_option maxHeartbeats 2000000
namespace Go.M
open Go.AV
structure SO (s : TState) : Prop where
  floor : 0 ≤ s.Floor
  cells : CellsOk s.Cells
  hsort : s.Held.Pairwise fun a b => a.Txn < b.Txn
  tsort : s.Told.Pairwise fun a b => a.Txn < b.Txn
  times : ∀ h ∈ s.Held, 1 ≤ h.Time
end Go.M
namespace Go.Proofs.YtkegepoihkhihaaGreat
open Go Go.AV Go.M
attribute [local irreducible] OpW OpA OpS AWP FSpec ESpec GSpec OpE RetOk RetOkG RvDen Le Ev GuardIs SrcIs Int.tmod Int.tdiv IntKind.wrap
end Go.Proofs.YtkegepoihkhihaaGreat

set_option maxHeartbeats 1000000
namespace Go.M
open Go.AV
end Go.M
namespace Go.Proofs.YtkegepoihkhihaaGreat
open Go Go.AV Go.M
attribute [local irreducible] OpW OpA OpS AWP FSpec ESpec GSpec OpE RetOk RetOkG RvDen Le Ev GuardIs SrcIs Int.tmod Int.tdiv IntKind.wrap
theorem AE8 (s : TState) (hg : goodState s = true) : FSpec Tryz.prog 81 [AV.agg s.cs] (AV.int (settled s)) := by
 have g := j7.1 hg
 have hhl := g.hlen
 refine C1 Tryz.func81 rfl Tryz.ntmps81 rfl ?_
 refine A3 (A2 ?_)
 refine I2 rfl rfl rfl rfl (A0 rfl) ?_
 intro b1
 refine A1 rfl (A8 rfl B3) ?_
 refine A4 (A3 (A2 ?_))
 refine A1 rfl (B2 0 rfl D6 rfl C2 (A0 rfl) rfl) ?_
 refine A1 rfl (B0 0 rfl (A0 rfl) rfl D0 rfl) ?_
 refine B5 rfl ?_
 refine A4 (A3 (A3 (A2 ?_)))
 refine A1 rfl (B2 2 rfl D6 rfl K6 (A0 rfl) rfl) ?_
 refine A1 rfl (B0 0 rfl (A0 rfl) rfl L7 rfl) ?_
 refine A1 rfl (E4 rfl F0 (A0 rfl)) ?_
 refine A1 rfl (C3 rfl B3) ?_
 refine A4 (C5 ?_)
 refine G0 [(2, _), (9, _), (10, _)] _ (fun (i : Nat) => i ≤ s.Held.length) (fun (i : Nat) => []) (fun (i : Nat) => [(3, AV.int ((s.Held.take i).foldl (fun o h => min o (h.Time - 1)) s.Floor)), (11, AV.int i)]) (fun (i : Nat) => s.Held.length - i) (0) ?_ (G1 ⟨rfl, rfl, rfl, rfl, rfl, trivial⟩) ?_
 ·exact Nat.zero_le _
 intro i hinv
 refine A3 (A2 ?_)
 refine A1 rfl (F8 rfl (A0 rfl) (A0 rfl)) ?_
 refine A4 (A3 ?_)
 refine B8 (A0 rfl) ?_ ?_
 ·intro h12
  have k12 := of_decide_eq_true h12; try simp only [A6] at k12
  have hlt : i < s.Held.length := by omega
  obtain ⟨h, hx⟩ := get_some hlt
  obtain ⟨q1, q2, q3⟩ := u7 g (H0 hx)
  refine B9 (A3 (C5 (A3 (A2 ?_))))
  refine A1 rfl (H8 rfl F0 E3 (A0 rfl) (A0 rfl) hx (by first | omega | (simp only [D1, B1, szR] at *; omega))) ?_
  refine A1 rfl (G8 rfl (A0 rfl) I5 E3) ?_
  refine H4 rfl rfl rfl rfl Tryz.zeroValue141 rfl ?_
  intro b5
  refine H1 0 rfl rfl rfl (A0 rfl) (A0 rfl) (I6 _) rfl E3 rfl ?_
  refine A4 (A2 ?_)
  refine A5 rfl ?_
  refine A1 rfl (B2 1 rfl D5 rfl C2 (A0 rfl) rfl) ?_
  refine A1 rfl (B0 0 rfl (A0 rfl) rfl D0 rfl) ?_
  refine A1 rfl (L1 rfl (A0 rfl) B3 (by first | omega | (simp only [D1, B1, szR] at *; omega))) ?_
  refine A1 rfl (D4 rfl Tryz.call38 rfl (n3 _ _) (A9 (A0 rfl) (A9 (A0 rfl) C6))) ?_
  refine B5 rfl ?_
  refine A4 (A2 ?_)
  refine A1 rfl (G6 rfl (A0 rfl) B3 (by first | omega | (simp only [D1, B1, szR] at *; omega))) ?_
  refine A5 rfl ?_
  refine A4 ?_
  refine G9 i (i + 1) ?_ ?_ (N0 1 ⟨congrArg (fun z => some (AV.int z)) (by rw [n2 hx]; unfold leastI; split <;> split <;> omega), rfl, rfl, rfl, rfl, trivial⟩)
  ·omega
  omega
 intro h12
 have k12 := of_decide_eq_false h12; try simp only [A6] at k12
 have hge : s.Held.length ≤ i := by omega
 rw [List.take_of_length_le hge]
 refine F3 ?_
 refine A3 (A2 ?_)
 refine A5 rfl ?_
 refine B5 rfl ?_
 refine A4 ?_
 refine B7 ?_
 exact D7 rfl (B6 rfl (by rfl))
theorem w5 (s : TState) (hs : s.size ≤ 1048576) : FSpec Tryz.prog 37 [AV.agg s.cs] (AV.tup [AV.int (settledR s).1, AV.bool (settledR s).2]) := by
 refine C1 Tryz.func37 rfl Tryz.ntmps37 rfl ?_
 refine A3 (A2 ?_)
 refine I2 rfl rfl rfl rfl (A0 rfl) ?_
 intro b1
 refine A1 rfl (A8 rfl B3) ?_
 refine A1 rfl (A8 rfl D8) ?_
 refine A4 (A3 (A3 (A2 ?_)))
 refine A1 rfl (M0 0 rfl (A0 rfl) rfl L0 I1 rfl) ?_
 refine A1 rfl (D4 rfl Tryz.call80 rfl (w4 _ (by first | assumption | omega)) (A9 (A0 rfl) C6)) ?_
 refine A1 rfl (I3 rfl (A0 rfl)) ?_
 refine A4 ?_
 refine B8 (A0 rfl) ?_ ?_
 ·intro h6
  have he : settledR s = (0, false) := if_neg (by simpa using h6)
  rw [he]
  refine A3 (A2 ?_)
  refine A1 rfl (A8 rfl B3) ?_
  refine A1 rfl (A8 rfl D8) ?_
  refine A4 ?_
  refine B7 ?_
  exact W1 rfl (by decide) (K5 (B6 rfl (by rfl)) (K5 (B6 rfl (by rfl)) Q9))
 intro h6
 have hg : goodState s = true := by simpa using h6
 have he : settledR s = (settled s, true) := if_pos hg
 rw [he]
 refine B9 (A3 (A2 ?_))
 refine A1 rfl (M0 0 rfl (A0 rfl) rfl L0 I1 rfl) ?_
 refine A1 rfl (D4 rfl Tryz.call81 rfl (AE8 _ (by assumption)) (A9 (A0 rfl) C6)) ?_
 refine B5 rfl ?_
 refine A1 rfl (A8 rfl D8) ?_
 refine A4 ?_
 refine B7 ?_
 exact W1 rfl (by decide) (K5 (B6 rfl (by rfl)) (K5 (B6 rfl (by rfl)) Q9))
end Go.Proofs.YtkegepoihkhihaaGreat

namespace Go.M
open Go.AV
def Srt (l : List TFeedItem) : Prop := l.Pairwise fun a b => l23Ahead a b = true
def putR : List TFeedItem → TFeedItem → List TFeedItem × Bool
  | [], x => ([x], true)
  | y :: l, x => if l23Ahead y x = true then (y :: (putR l x).1, (putR l x).2) else if l23Ahead x y = true then (x :: y :: l, true) else (y :: l, decide (y = x))
end Go.M

namespace Go.M
open Go.AV
def inTime (a u : Int) (v : TVer) : Bool := decide (a < v.Time) && decide (v.Time ≤ u)
def itemOf (g : Int) (k : Str) (v : TVer) : TFeedItem := ⟨v.Time, g, k, v.Val, v.Gone⟩
def cellItems (g a u : Int) (c : TCell) : List TFeedItem := (c.Vers.filter (inTime a u)).map (itemOf g c.Key)
def rawItems (l : List TCell) (g a u : Int) : List TFeedItem := (l.map (cellItems g a u)).flatten
def insAll (o : List TFeedItem) (l : List TFeedItem) : List TFeedItem := l.foldl (fun o x => (putR o x).1) o
def feedIn (l : List TCell) (g a u : Int) : List TFeedItem := insAll [] (rawItems l g a u)
def allItems (a u : Int) : Nat → List TState → List TFeedItem
  | _, [] => []
  | i, s :: l => feedIn s.Cells i a u ++ allItems a u (i + 1) l
end Go.M

namespace Go.M
open Go.AV
end Go.M

namespace Go.M
open Go.AV
def areStates (l : List TState) : Bool := within (l.length : Int) 1 4 && l.all goodState
def sureL (l : List TState) : Int := l.foldl (fun o s => min o (settled s)) 100000
def sureR (l : List TState) : Int × Bool := if areStates l = true then (sureL l, true) else (0, false)
theorem AE9 {l : List TState} : areStates l = true ↔ 1 ≤ l.length ∧ l.length ≤ 4 ∧ ∀ s ∈ l, goodState s = true := by
  unfold areStates within
  simp only [Bool.and_eq_true, decide_eq_true_eq, List.all_eq_true]
  constructor
  · rintro ⟨⟨a, b⟩, c⟩; exact ⟨by omega, by omega, c⟩
  · rintro ⟨a, b, c⟩; exact ⟨⟨by omega, by omega⟩, c⟩
structure Fed (A : List TFeedItem) (F : Int) (p q : TState) : Prop where
  srt : Srt A
  mem : ∀ z, z ∈ A ↔ z ∈ allItems 0 F 0 [p, q]
  pos : 0 ≤ F
end Go.M

set_option maxHeartbeats 2000000
namespace Go.M
open Go.AV
theorem AD1 {l : List TState} {i : Nat} {x : TState} (h : l[i]? = some x) : sureL (l.take (i + 1)) = min (sureL (l.take i)) (settled x) := by
  unfold sureL; rw [List.take_add_one, h, List.foldl_append]; rfl
theorem min_if (a b : Int) : (if b < a then b else a) = min a b := by rw [Int.min_def]; split <;> split <;> omega
theorem AU7 (a b : Int) : leastI a b = min a b := by unfold leastI; rw [Int.min_def]; split <;> split <;> omega
theorem AJ3 (l : List TState) : (!l.any fun s => !goodState s) = l.all goodState := by
  induction l with
  | nil => rfl
  | cons x l ih => rw [List.any_cons, List.all_cons, ← ih]; cases goodState x <;> simp
theorem AR7 {l : List TState} {x : TState} (hx : x ∈ l) (h : goodState x = false) : areStates l = false := by
  unfold areStates
  rw [show l.all goodState = false from List.all_eq_false.2 ⟨x, hx, by rw [h]; decide⟩, Bool.and_false]
end Go.M
namespace Go.Proofs.YtkegepoihkhihaaGreat
open Go Go.AV Go.M
attribute [local irreducible] OpW OpA OpS AWP FSpec ESpec GSpec OpE RetOk RetOkG RvDen Le Ev GuardIs SrcIs SrcE Int.tmod IntKind.wrap bandI
theorem w6 (s : TState) (hs : s.size ≤ 1048576) : FSpec Tryz.prog 84 [AV.agg s.cs] (AV.bool (!goodState s)) := by
 refine C1 Tryz.func84 rfl Tryz.ntmps84 rfl ?_
 refine A3 (A2 ?_)
 refine I2 rfl rfl rfl rfl (A0 rfl) ?_
 intro b1
 refine A1 rfl (A8 rfl D8) ?_
 refine A4 (A3 (A2 ?_))
 refine A1 rfl (M0 0 rfl (A0 rfl) rfl L0 I1 rfl) ?_
 refine A1 rfl (D4 rfl Tryz.call50 rfl (AA5 _ (by first | assumption | omega)) (A9 (A0 rfl) C6)) ?_
 refine A1 rfl (I3 rfl (A0 rfl)) ?_
 refine B5 rfl ?_
 refine A4 ?_
 refine B7 ?_
 exact D7 rfl (B6 rfl (by rfl))
theorem AA6 (l : List TState) (hs : ∀ s ∈ l, s.size ≤ 1048576) : FSpec Tryz.prog 40 [AV.list 4 (l.map TState.cs)] (AV.bool (areStates l)) := by
 refine C1 Tryz.func40 rfl Tryz.ntmps40 rfl ?_
 refine A3 (A2 ?_)
 refine A1 rfl (A8 rfl D8) ?_
 refine A4 (A3 (A2 ?_))
 refine A5 rfl ?_
 refine A1 rfl (E4 rfl J0 (A0 rfl)) ?_
 refine A1 rfl (D4 rfl Tryz.call82 rfl (Q6 _ _ _) (A9 (A0 rfl) (A9 B3 (A9 B3 C6)))) ?_
 refine A5 rfl ?_
 refine C4 rfl (fun hc => C3 rfl (A0 rfl)) ?_
 refine C4 rfl (fun hc => D4 rfl Tryz.call83 rfl (f1 l (fun s => s.size ≤ 1048576) (fun s => !goodState s) hs) (A9 (A7 rfl hc) (A9 (AN7 Tryz.call84 (fun s h => w6 s h)) C6))) ?_
 refine C4 rfl (fun hc => I3 rfl (A7 rfl hc)) ?_
 refine A1 rfl (G4 rfl (A0 rfl) (E9 rfl)) ?_
 refine B5 rfl ?_
 refine A4 ?_
 refine B7 ?_
 exact D7 rfl (B6 rfl (by exact congrArg AV.bool (by unfold areStates; rw [← AJ3, A6])))
theorem AM8 (l : List TState) (hg : ∀ s ∈ l, goodState s = true) : FSpec Tryz.prog 41 [AV.list 4 (l.map TState.cs)] (AV.int (sureL l)) := by
 refine C1 Tryz.func41 rfl Tryz.ntmps41 rfl ?_
 refine J7 (t := 0) rfl fun hl => ?_
 try simp only [A6] at hl
 refine A3 (A2 ?_)
 refine A1 rfl (A8 rfl B3) ?_
 refine A4 (A3 (A2 ?_))
 refine A1 rfl (A8 rfl B3) ?_
 refine A4 (A3 (A3 (A2 ?_)))
 refine A5 rfl ?_
 refine A1 rfl (E4 rfl J0 (A0 rfl)) ?_
 refine A1 rfl (C3 rfl B3) ?_
 refine A4 (C5 ?_)
 refine G0 [(2, _), (6, _), (7, _)] _ (fun (i : Nat) => i ≤ l.length) (fun (i : Nat) => []) (fun (i : Nat) => [(3, AV.int (sureL (l.take i))), (8, AV.int i)]) (fun (i : Nat) => l.length - i) (0) ?_ (M7 (by rfl) ⟨rfl, rfl, rfl, rfl, rfl, trivial⟩) ?_
 ·exact Nat.zero_le _
 intro i hinv
 refine A3 (A2 ?_)
 refine A1 rfl (F8 rfl (A0 rfl) (A0 rfl)) ?_
 refine A4 (A3 ?_)
 refine B8 (A0 rfl) ?_ ?_
 ·intro h9
  have k9 := of_decide_eq_true h9; try simp only [A6] at k9
  have hlt : i < l.length := by omega
  obtain ⟨x, hx⟩ := get_some hlt
  have hxg := hg x (H0 hx)
  refine B9 (A3 (C5 (A3 (A2 ?_))))
  refine A1 rfl (H8 rfl J0 I1 (A0 rfl) (A0 rfl) hx (by first | omega | (simp only [D1, B1, szR] at *; omega))) ?_
  refine A1 rfl (G8 rfl (A0 rfl) L0 I1) ?_
  refine H4 rfl rfl rfl rfl Tryz.zeroValue43 rfl ?_
  intro b5
  refine H1 0 rfl rfl rfl (A0 rfl) (A0 rfl) (I6 _) rfl I1 rfl ?_
  refine A4 (A2 ?_)
  refine A5 rfl ?_
  refine A1 rfl (M0 0 rfl (A0 rfl) rfl L0 I1 rfl) ?_
  refine A1 rfl (D4 rfl Tryz.call85 rfl (AJ1 x hxg) (A9 (A0 rfl) C6)) ?_
  refine A1 rfl (w_min rfl (A0 rfl) (A0 rfl)) ?_
  refine B5 rfl ?_
  refine A4 (A2 ?_)
  refine A1 rfl (G6 rfl (A0 rfl) B3 (by first | omega | (simp only [D1, B1, szR] at *; omega))) ?_
  refine A5 rfl ?_
  refine A4 ?_
  refine G9 i (i + 1) ?_ ?_ (Le.trans (X1 [0] rfl) (S1 1 (by rfl) ⟨(congrArg (fun z => some (AV.int z)) (by rw [AD1 hx, min_if])), rfl, rfl, rfl, rfl, trivial⟩))
  ·exact (by omega)
  omega
 intro h9
 have k9 := of_decide_eq_false h9; try simp only [A6] at k9
 have hge : l.length ≤ i := by omega
 rw [List.take_of_length_le hge]
 refine F3 ?_
 refine A3 (A2 ?_)
 refine A5 rfl ?_
 refine B5 rfl ?_
 refine A4 ?_
 refine B7 ?_
 exact D7 rfl (B6 rfl (by rfl))
theorem AJ4 (l : List TState) (hs : ∀ s ∈ l, s.size ≤ 1048576) : FSpec Tryz.prog 12 [AV.list 4 (l.map TState.cs)] (AV.tup [AV.int (sureR l).1, AV.bool (sureR l).2]) := by
 refine C1 Tryz.func12 rfl Tryz.ntmps12 rfl ?_
 refine A3 (A2 ?_)
 refine A1 rfl (A8 rfl B3) ?_
 refine A1 rfl (A8 rfl D8) ?_
 refine A4 (A3 (A3 (A2 ?_)))
 refine A5 rfl ?_
 refine A1 rfl (D4 rfl Tryz.call40 rfl (AA6 l hs) (A9 (A0 rfl) C6)) ?_
 refine A1 rfl (I3 rfl (A0 rfl)) ?_
 refine A4 ?_
 refine B8 (A0 rfl) ?_ ?_
 ·intro h6
  have he : sureR l = (0, false) := (by unfold sureR; rw [if_neg (by simpa using h6)])
  rw [he]
  refine A3 (A2 ?_)
  refine A1 rfl (A8 rfl B3) ?_
  refine A1 rfl (A8 rfl D8) ?_
  refine A4 ?_
  refine B7 ?_
  exact W1 rfl (by decide) (K5 (B6 rfl (by rfl)) (K5 (B6 rfl (by rfl)) Q9))
 intro h6
 have hg : areStates l = true := by simpa using h6
 have he : sureR l = (sureL l, true) := (by unfold sureR; rw [if_pos hg])
 rw [he]
 refine B9 (A3 (A2 ?_))
 refine A5 rfl ?_
 refine A1 rfl (D4 rfl Tryz.call41 rfl (AM8 l (AE9.1 hg).2.2) (A9 (A0 rfl) C6)) ?_
 refine B5 rfl ?_
 refine A1 rfl (A8 rfl D8) ?_
 refine A4 ?_
 refine B7 ?_
 exact W1 rfl (by decide) (K5 (B6 rfl (by rfl)) (K5 (B6 rfl (by rfl)) Q9))
theorem AJ5 (l : List TState) (hs : ∀ s ∈ l, s.size ≤ 1048576) : FSpec Tryz.prog 10 [AV.list 4 (l.map TState.cs)] (AV.tup [AV.int (sureR l).1, AV.bool (sureR l).2]) := by
 refine C1 Tryz.func10 rfl Tryz.ntmps10 rfl ?_
 refine J7 (t := 0) rfl fun hl => ?_
 try simp only [A6] at hl
 refine A3 (A2 ?_)
 refine A1 rfl (A8 rfl B3) ?_
 refine A1 rfl (A8 rfl D8) ?_
 refine A4 (A3 (A2 ?_))
 refine A1 rfl (A8 rfl B3) ?_
 refine A4 (A3 (A3 (A2 ?_)))
 refine A1 rfl (A8 rfl B3) ?_
 refine A4 (C5 ?_)
 refine G0 [(0, _)] _ (fun (i : Nat) => i ≤ l.length ∧ ∀ s ∈ l.take i, goodState s = true) (fun (i : Nat) => []) (fun (i : Nat) => [(4, AV.int (sureL (l.take i))), (5, AV.int i)]) (fun (i : Nat) => l.length - i) (0) ?_ (M7 (by rfl) ⟨rfl, rfl, rfl, trivial⟩) ?_
 ·exact ⟨Nat.zero_le _, fun s hs => by cases hs⟩
 intro i hinv
 refine A3 (A3 (A2 ?_))
 refine A5 rfl ?_
 refine A5 rfl ?_
 refine A1 rfl (E4 rfl J0 (A0 rfl)) ?_
 refine A1 rfl (F8 rfl (A0 rfl) (A0 rfl)) ?_
 refine A4 ?_
 refine B8 (A0 rfl) ?_ ?_
 ·intro h11
  have k11 := of_decide_eq_true h11; try simp only [A6] at k11
  have hlt : i < l.length := by (simpa using h11)
  obtain ⟨x, hx⟩ := get_some hlt
  have hxm := H0 hx
  have hxs := hs x hxm
  refine B9 (A3 (C5 (A3 (A2 ?_))))
  refine A5 rfl ?_
  refine A5 rfl ?_
  refine A1 rfl (H8 rfl J0 I1 (A0 rfl) (A0 rfl) hx (by first | omega | (simp only [D1, B1, szR] at *; omega))) ?_
  refine A1 rfl (G8 rfl (A0 rfl) L0 I1) ?_
  refine A1 rfl (D4 rfl Tryz.call37 rfl (w5 x hxs) (A9 (A0 rfl) C6)) ?_
  refine A5 rfl ?_
  refine A1 rfl (K8 rfl (A0 rfl) rfl) ?_
  refine A1 rfl (K8 rfl (A0 rfl) rfl) ?_
  refine B5 rfl ?_
  refine B5 rfl ?_
  refine A4 (A3 (A3 (A2 ?_)))
  refine A5 rfl ?_
  refine A1 rfl (I3 rfl (A0 rfl)) ?_
  refine A4 ?_
  refine B8 (A0 rfl) ?_ ?_
  ·intro h23
   have hxb : goodState x = false := (by unfold settledR at h23; cases hb : goodState x with | false => rfl | true => (rw [hb] at h23; simp at h23))
   have he : sureR l = (0, false) := (by unfold sureR; rw [if_neg (by rw [AR7 hxm hxb]; decide)])
   rw [he]
   refine A3 (A2 ?_)
   refine A1 rfl (A8 rfl B3) ?_
   refine A1 rfl (A8 rfl D8) ?_
   refine A4 ?_
   refine B7 ?_
   exact W1 rfl (by decide) (K5 (B6 rfl (by rfl)) (K5 (B6 rfl (by rfl)) Q9))
  intro h23
  have hxg : goodState x = true := (by unfold settledR at h23; cases hb : goodState x with | true => rfl | false => (rw [hb] at h23; simp at h23))
  have hsr : settledR x = (settled x, true) := if_pos hxg
  rw [hsr]
  refine B9 (A2 ?_)
  refine A5 rfl ?_
  refine A5 rfl ?_
  refine A1 rfl (D4 rfl Tryz.call38 rfl (n3 _ _) (A9 (A0 rfl) (A9 (A0 rfl) C6))) ?_
  refine B5 rfl ?_
  refine A4 (A2 ?_)
  refine A5 rfl ?_
  refine A1 rfl (G6 rfl (A0 rfl) B3 (by first | omega | (simp only [D1, B1, szR] at *; omega))) ?_
  refine B5 rfl ?_
  refine A4 ?_
  refine G9 i (i + 1) ?_ ?_ (M7 (by rfl) ⟨(congrArg (fun z => some (AV.int z)) (by rw [AD1 hx, AU7])), rfl, rfl, trivial⟩)
  ·exact ⟨by omega, fun q hq => by (rw [List.take_add_one, hx] at hq; rcases List.mem_append.1 hq with hq | hq; (exact hinv.2 q hq); (simp at hq; rw [hq]; exact hxg))⟩
  omega
 intro h11
 have k11 := of_decide_eq_false h11; try simp only [A6] at k11
 have hge : l.length ≤ i := by (simpa using h11)
 have hall : ∀ s ∈ l, goodState s = true := fun s hm => hinv.2 s (by rw [List.take_of_length_le hge]; exact hm)
 rw [List.take_of_length_le hge]
 refine F3 ?_
 refine A3 (A3 (A2 ?_))
 refine A5 rfl ?_
 refine A1 rfl (E4 rfl J0 (A0 rfl)) ?_
 refine A1 rfl (D4 rfl Tryz.call39 rfl (P7 _ _ _) (A9 (A0 rfl) (A9 B3 (A9 B3 C6)))) ?_
 refine A1 rfl (I3 rfl (A0 rfl)) ?_
 refine A4 ?_
 refine B8 (A0 rfl) ?_ ?_
 ·intro h30
  have he : sureR l = (0, false) := (by unfold sureR; rw [if_neg (by unfold areStates; simp only [A6] at h30; simp_all)])
  rw [he]
  refine A3 (A2 ?_)
  refine A1 rfl (A8 rfl B3) ?_
  refine A1 rfl (A8 rfl D8) ?_
  refine A4 ?_
  refine B7 ?_
  exact W1 rfl (by decide) (K5 (B6 rfl (by rfl)) (K5 (B6 rfl (by rfl)) Q9))
 intro h30
 have he : sureR l = (sureL l, true) := (by unfold sureR; rw [if_pos (by unfold areStates; rw [List.all_eq_true.2 hall, Bool.and_true]; simpa using h30)])
 rw [he]
 refine B9 (A3 (A2 ?_))
 refine A5 rfl ?_
 refine B5 rfl ?_
 refine A1 rfl (A8 rfl D8) ?_
 refine A4 ?_
 refine B7 ?_
 exact W1 rfl (by decide) (K5 (B6 rfl (by rfl)) (K5 (B6 rfl (by rfl)) Q9))
end Go.Proofs.YtkegepoihkhihaaGreat

namespace Go.AV
open Go.ChangeShapes Go.WideShapes Go.ChangeAt Go.RowKit

def heapR (w : World) : RHeap := fun b => w.heap[b]?
theorem heapR_le (w : World) : RLe (heapR w) w := fun _ _ h => h
theorem AR8 {w : World} {a : Addr} {v : Value} (h : w.cell? a = some v) : rcell (heapR w) a = some v := h

def Opens (P : Program) (t : TypeId) (α : Type) (enc : α → List AV) (ok : α → Prop) : Prop :=
  ∀ (H : Type) (en : TypeId × Value → H) (w : World) (base : Nat) (spare : Nat → Bool) (held : Bool) (fuel : Nat) (cs : List Value) (x : DataW H × List MemPlace),
    DataW.trod en P w base spare held fuel t cs = some x → ∃ a : α, ok a ∧ DenC (heapR w) cs (enc a)
theorem d2 {R : RHeap} {v : Value} {x : AV} (h : x.den R v) (h1 : v.oneCell' = true) : DenC R [v] [x] :=
  ⟨rfl, fun i u y hu hy => by
    cases i with
    | zero => simp at hu hy; subst hu; subst hy; exact ⟨h, h1⟩
    | succ i => simp at hu⟩
theorem AM9 {R : RHeap} {vs us : List Value} {xs ys : List AV} (h : DenC R vs xs) (k : DenC R us ys) : DenC R (vs ++ us) (xs ++ ys) :=
  ⟨by simp [h.1, k.1], fun i v x hv hx => by
    by_cases hi : i < vs.length
    · rw [List.getElem?_append_left hi] at hv
      rw [List.getElem?_append_left (by rw [← h.1]; exact hi)] at hx
      exact h.2 i v x hv hx
    · rw [List.getElem?_append_right (by omega)] at hv
      rw [List.getElem?_append_right (by rw [← h.1]; omega), ← h.1] at hx
      exact k.2 _ v x hv hx⟩
section
variable {P : Program} {t e : TypeId}
theorem AU8 {k : IntKind} (ht : P.underlying t = some (.int k)) : Opens P t Int (fun n => [AV.ik k n]) (fun n => (Lit.int k n).wf = true) := fun H en w base spare held fuel cs x h => by
  obtain ⟨n, rfl, _, hw⟩ := DataW.trod_int ht h
  exact ⟨n, hw, d2 rfl rfl⟩
theorem AR9 (ht : P.underlying t = some .bool) : Opens P t Bool (fun b => [AV.bool b]) (fun _ => True) := fun H en w base spare held fuel cs x h => by
  obtain ⟨b, rfl, _⟩ := DataW.trod_bool ht h
  exact ⟨b, trivial, d2 rfl rfl⟩
theorem AU9 (ht : P.underlying t = some .string) : Opens P t (List UInt8) (fun s => [AV.str s]) (fun s => s.length ≤ 9223372036854775807) := fun H en w base spare held fuel cs x h => by
  obtain ⟨s, rfl, _, hs⟩ := DataW.trod_string ht h
  refine ⟨s.data.toList, ?_, d2 (show _ = _ by simp) rfl⟩
  unfold maxLen at hs
  show s.data.toList.length ≤ _
  rw [Array.length_toList]
  have e : s.data.size = s.size := rfl
  omega
theorem AO9 {α : Type} {p : Nat → α → Prop} : ∀ n, (∀ i, i < n → ∃ a, p i a) → ∃ l : List α, l.length = n ∧ ∀ (i : Nat) (a : α), l[i]? = some a → p i a
  | 0, _ => ⟨[], rfl, fun i a h => by simp at h⟩
  | n + 1, h => by
    obtain ⟨l, h1, h2⟩ := AO9 n fun i hi => h i (by omega)
    obtain ⟨a, ha⟩ := h n (by omega)
    refine ⟨l ++ [a], by simp [h1], fun i b hb => ?_⟩
    by_cases hi : i < l.length
    · rw [List.getElem?_append_left hi] at hb; exact h2 i b hb
    · rw [List.getElem?_append_right (by omega)] at hb
      have hin : i = n := by
        have := (List.getElem?_eq_some_iff.1 hb).1
        simp at this; omega
      subst hin
      rw [h1] at hb; simp at hb; subst hb; exact ha
theorem S5 {α : Type} {enc : α → List AV} {ok : α → Prop} {sz : Nat} (ht : P.underlying t = some (.slice e)) (hc : P.cellsOf e = sz) (h : Opens P e α enc ok) (hl : ∀ a, (enc a).length = sz) :
    Opens P t (List α) (fun l => [AV.list sz (l.map enc)]) (fun l => ∀ a ∈ l, ok a) := fun H en w base spare held fuel cs x hx => by
  rcases DataW.trod_slice ht hx with ⟨rfl, _⟩ | ⟨a, len, cap, elems, rest, n, _, rfl, _, _, hlc, hcm, hel, hi, _, _⟩
  · exact ⟨[], by simp, d2 ⟨none, 0, rfl, Nat.le_refl _, Nat.zero_le _, by simp, fun h => absurd rfl h⟩ rfl⟩
  · obtain ⟨l, h1, h2⟩ := AO9 (p := fun i b => ok b ∧ ∃ cs', w.cells? base (a.add (i * sz)) sz = some cs' ∧ DenC (heapR w) cs' (enc b)) len fun i hil => by
      have := hi i hil
      rw [hc, List.getElem?_eq_getElem (by omega)] at this
      obtain ⟨cs', hcs, htr⟩ := Option.bind_eq_some_iff.1 this
      obtain ⟨b, hb, hd⟩ := h H en w base spare held n cs' _ htr
      exact ⟨b, hb, cs', hcs, hd⟩
    refine ⟨l, fun b hb => ?_, d2 ⟨some a, cap, by rw [A6, h1], by rw [A6, h1]; exact hlc, hcm, fun ec he => ?_, fun _ => ⟨a, rfl, fun j y hy => ?_⟩⟩ rfl⟩
    · obtain ⟨i, hib⟩ := List.getElem?_of_mem hb
      exact (h2 i b hib).1
    · obtain ⟨b, _, rfl⟩ := List.mem_map.1 he
      exact hl b
    · have hun : ∀ ec ∈ l.map enc, ec.length = sz := fun ec he => by
        obtain ⟨b, _, rfl⟩ := List.mem_map.1 he
        exact hl b
      have hjl : j < l.length * sz := by
        have := (List.getElem?_eq_some_iff.1 hy).1
        rwa [S3 hun, A6] at this
      have hsz : 0 < sz := by
        rcases Nat.eq_zero_or_pos sz with h0 | h0
        · subst h0; omega
        · exact h0
      have hij : j / sz < l.length := Nat.div_lt_of_lt_mul (by rw [Nat.mul_comm]; exact hjl)
      have hkm : j % sz < sz := Nat.mod_lt _ hsz
      have hjj : j / sz * sz + j % sz = j := by rw [Nat.mul_comm]; exact Nat.div_add_mod j sz
      have hb : l[j / sz]? = some l[j / sz] := List.getElem?_eq_getElem hij
      obtain ⟨_, cs', hcs, hd⟩ := h2 _ _ hb
      obtain ⟨_, hcl, hat⟩ := World.cells?_some hcs
      have hk : (enc l[j / sz])[j % sz]? = some ((enc l[j / sz])[j % sz]'(by rw [hl]; exact hkm)) := List.getElem?_eq_getElem _
      have hyk := U0 hun (i := j / sz) (e := enc l[j / sz]) (by rw [List.getElem?_map, hb]; rfl) hk
      rw [hjj, hy] at hyk
      injection hyk with hyk
      have hv : cs'[j % sz]? = some (cs'[j % sz]'(by rw [hcl]; exact hkm)) := List.getElem?_eq_getElem _
      have hcell := hat (j % sz) hkm
      rw [hv, n6, hjj] at hcell
      refine ⟨_, AR8 hcell, ?_⟩
      have := hd.2 _ _ _ hv hk
      rw [hyk]; exact this
def OpensF (P : Program) (fs : List Field) (off : Nat) (α : Type) (enc : α → List AV) (ok : α → Prop) (total : Nat) : Prop :=
  ∀ (H : Type) (en : TypeId × Value → H) (w : World) (base : Nat) (spare : Nat → Bool) (held : Bool) (fuel : Nat) (cs : List Value), cs.length = total →
    (∀ f ∈ fs, ∃ x, DataW.trod en P w base spare held fuel f.type ((cs.drop f.offset).take (P.cellsOf f.type)) = some x) → ∃ a : α, ok a ∧ DenC (heapR w) (cs.drop off) (enc a)
theorem V7 {total : Nat} : OpensF P [] total Unit (fun _ => []) (fun _ => True) total := fun H en w base spare held fuel cs hl _ =>
  ⟨(), trivial, by rw [List.drop_eq_nil_of_le (by omega)]; exact ⟨rfl, fun i v x h => by simp at h⟩⟩
theorem J8 {α β : Type} {f : Field} {fs : List Field} {off m total : Nat} {enc : α → List AV} {enc' : β → List AV} {ok : α → Prop} {ok' : β → Prop} (h : Opens P f.type α enc ok) (ho : f.offset = off) (hm : P.cellsOf f.type = m)
    (k : OpensF P fs (off + m) β enc' ok' total) : OpensF P (f :: fs) off (α × β) (fun a => enc a.1 ++ enc' a.2) (fun a => ok a.1 ∧ ok' a.2) total := fun H en w base spare held fuel cs hl hf => by
  obtain ⟨x, hx⟩ := hf f (by simp)
  rw [ho, hm] at hx
  obtain ⟨a, h1, h2⟩ := h H en w base spare held fuel _ x hx
  obtain ⟨b, h3, h4⟩ := k H en w base spare held fuel cs hl fun g hg => hf g (by simp [hg])
  refine ⟨(a, b), ⟨h1, h3⟩, ?_⟩
  have := AM9 h2 h4
  rwa [← List.drop_drop, List.take_append_drop] at this
theorem S8 {α : Type} {fs : Array Field} {enc : α → List AV} {ok : α → Prop} {total : Nat} (ht : P.underlying t = some (.struct fs)) (hc : P.cellsOf t = total) (h : OpensF P fs.toList 0 α enc ok total) : Opens P t α enc ok := fun H en w base spare held fuel cs x hx => by
  obtain ⟨xs, n, _, _, hl, hxl, hf⟩ := DataW.trod_struct ht hx
  obtain ⟨a, h1, h2⟩ := h H en w base spare held n cs (by rw [hl, hc]) fun f hfm => by
    obtain ⟨i, hi⟩ := List.getElem?_of_mem hfm
    have hi' : fs[i]? = some f := by rw [← Array.getElem?_toList]; exact hi
    have hlt : i < xs.length := by
      have := (Array.getElem?_eq_some_iff.1 hi').1
      omega
    exact ⟨xs[i], (hf i f hi').trans (List.getElem?_eq_getElem hlt)⟩
  exact ⟨a, h1, by simpa using h2⟩
theorem N6 {α β : Type} {enc : α → List AV} {enc' : β → List AV} {ok : α → Prop} {ok' : β → Prop} (f : α → β) (h : Opens P t α enc ok) (he : ∀ a, enc' (f a) = enc a) (ho : ∀ a, ok a → ok' (f a)) : Opens P t β enc' ok' := fun H en w base spare held fuel cs x hx => by
  obtain ⟨a, h1, h2⟩ := h H en w base spare held fuel cs x hx
  exact ⟨f a, ho a h1, by rw [he]; exact h2⟩
theorem arg_one {H : Type} {en : TypeId × Value → H} {W : World} {base : Nat} {spare : Nat → Bool} {held : Bool} {α : Type} {enc : α → AV} {ok : α → Prop} {v : Value} {d : DataW H} {p : List MemPlace}
    (h : Opens P t α (fun a => [enc a]) ok) (h1 : v.cells = #[v]) (hd : DataW.Trod en P W base spare held t v d p) : ∃ a, ok a ∧ (enc a).den (heapR W) v := by
  obtain ⟨fuel, hf⟩ := hd
  rw [h1] at hf
  obtain ⟨a, h2, h3⟩ := h H en W base spare held fuel _ _ hf
  exact ⟨a, h2, (h3.2 0 v _ rfl rfl).1⟩
theorem AV0 {f : FuncId} {xs : List AV} {b : Bool} {W : World} {vs : List Value} (h : FSpec P f xs (AV.bool b)) (hd : DenV (heapR W) vs xs) :
    Calls P f vs.toArray W fun e w' => e = .returned (.bool b) ∧ Below W.heap.size W w' :=
  (h (heapR W) W vs (heapR_le W) hd).mono fun e w' ⟨v, R', h1, h2, _, _, h5⟩ => ⟨by rw [h1]; exact congrArg Ending.returned h2, h5⟩
end
end Go.AV

namespace Go.Proofs.YtkegepoihkhihaaGreat
open Go Go.AV Go.M
open Go.ChangeShapes Go.WideShapes Go.ChangeAt Go.RowKit
section
attribute [local irreducible] OpW OpA OpS AWP FSpec ESpec GSpec OpE RetOk RetOkG RvDen Le Ev GuardIs SrcIs
theorem n4 (l : List TState) (hl : ∀ x ∈ l, x.ok) : FSpec Tryz.prog 3 [AV.list 4 (l.map TState.cs)] (AV.bool true) := by
 refine C1 Tryz.func3 rfl Tryz.ntmps3 rfl ?_
 refine A3 (A2 ?_)
 refine A1 rfl (A8 rfl D8) ?_
 refine A4 (A3 (A2 ?_))
 refine A1 rfl (A8 rfl B3) ?_
 refine A4 (A3 (A2 ?_))
 refine A5 rfl ?_
 refine A5 rfl ?_
 refine A1 rfl (D4 rfl Tryz.call9 rfl (AD8 _ _ (by first | assumption | trivial) (by first | omega | (simp only [D1, B1, szR] at *; omega)) (by first | omega | (simp only [D1, B1, szR] at *; omega))) (A9 (A0 rfl) (A9 (A0 rfl) C6))) ?_
 refine B5 rfl ?_
 refine A4 (A3 (A3 (A2 ?_)))
 refine A5 rfl ?_
 refine A1 rfl (F8 rfl (A0 rfl) B3) ?_
 refine A4 ?_
 refine B8 (A0 rfl) ?_ ?_
 ·intro h13
  have k13 := of_decide_eq_true h13; try simp only [A6] at k13
  refine A3 (A2 ?_)
  refine A1 rfl (A8 rfl D8) ?_
  refine A4 ?_
  refine B7 ?_
  exact D7 rfl (B6 rfl (by first | rfl | (exfalso; simp_all; done)))
 intro h13
 have k13 := of_decide_eq_false h13; try simp only [A6] at k13
 have hsz : sizeL TState.size l ≤ 1048576 := by (simp only [szR] at k13; omega)
 have hsm : ∀ s ∈ l, s.size ≤ 1048576 := fun s hm => Nat.le_trans (X2 hm) hsz
 refine B9 (A3 (A2 ?_))
 refine A5 rfl ?_
 refine A1 rfl (D4 rfl Tryz.call11 rfl (Z8 _ (by first | assumption | omega)) (A9 (A0 rfl) C6)) ?_
 refine A1 rfl (D4 rfl Tryz.call10 rfl (AJ5 l hsm) (A9 (A0 rfl) C6)) ?_
 refine A5 rfl ?_
 refine A1 rfl (K8 rfl (A0 rfl) rfl) ?_
 refine A1 rfl (K8 rfl (A0 rfl) rfl) ?_
 refine B5 rfl ?_
 refine B5 rfl ?_
 refine A4 (A3 (A2 ?_))
 refine A5 rfl ?_
 refine A1 rfl (D4 rfl Tryz.call11 rfl (Z8 _ (by first | assumption | omega)) (A9 (A0 rfl) C6)) ?_
 refine B5 rfl ?_
 refine A4 (A3 (A2 ?_))
 refine A5 rfl ?_
 refine A1 rfl (D4 rfl Tryz.call12 rfl (AJ4 l hsm) (A9 (A0 rfl) C6)) ?_
 refine A5 rfl ?_
 refine A1 rfl (K8 rfl (A0 rfl) rfl) ?_
 refine A1 rfl (K8 rfl (A0 rfl) rfl) ?_
 refine B5 rfl ?_
 refine B5 rfl ?_
 refine A4 (A3 (A3 (A2 ?_)))
 refine A5 rfl ?_
 refine A5 rfl ?_
 refine A1 rfl (Q4 rfl (A0 rfl) (A0 rfl)) ?_
 refine A5 rfl ?_
 refine I0 rfl (fun hc => C3 rfl (A0 rfl)) ?_
 refine I0 rfl (fun hc => C3 rfl (A0 rfl)) ?_
 refine I0 rfl (fun hc => s5 rfl O8 (A7 rfl hc) (A7 rfl hc)) ?_
 refine A1 rfl (M5 rfl (A0 rfl) (E9 rfl)) ?_
 refine A4 ?_
 refine B8 (A0 rfl) ?_ ?_
 ·intro h34
  refine A3 (A2 ?_)
  refine A1 rfl (A8 rfl D8) ?_
  refine A4 ?_
  refine B7 ?_
  exact D7 rfl (B6 rfl (by first | rfl | (exfalso; simp_all; done)))
 intro h34
 refine B9 (A3 (A3 (A2 ?_)))
 refine A5 rfl ?_
 refine A5 rfl ?_
 refine A1 rfl (D4 rfl Tryz.call11 rfl (Z8 _ (by first | assumption | omega)) (A9 (A0 rfl) C6)) ?_
 refine A1 rfl (D4 rfl Tryz.call13 rfl (AD9 _ _) (A9 (A0 rfl) (A9 (A0 rfl) C6))) ?_
 refine A1 rfl (I3 rfl (A0 rfl)) ?_
 refine A4 ?_
 refine B8 (A0 rfl) ?_ ?_
 ·intro h39
  refine A3 (A2 ?_)
  refine A1 rfl (A8 rfl D8) ?_
  refine A4 ?_
  refine B7 ?_
  exact D7 rfl (B6 rfl (by first | rfl | (exfalso; simp_all; done)))
 intro h39
 refine B9 (A3 (A2 ?_))
 refine A1 rfl (A8 rfl D8) ?_
 refine A4 ?_
 refine B7 ?_
 exact D7 rfl (B6 rfl (by first | rfl | (exfalso; simp_all; done)))
end
theorem V4 : Opens Tryz.prog 3 Int (fun n => [AV.int n]) (fun _ => True) := N6 id (AU8 Tryz.underlying3) (fun _ => rfl) (fun _ _ => trivial)
theorem Z6 : Opens Tryz.prog 9 Str (fun s => [AV.str s]) (fun s => s.length ≤ 9223372036854775807) := AU9 H6
theorem j4 : Opens Tryz.prog 4 Bool (fun s => [AV.bool s]) (fun _ => True) := AR9 O8
theorem AS0 : Opens Tryz.prog 217 TVer TVer.cs (fun c => c.ok) := N6 (fun p => ⟨p.1, p.2.1, p.2.2.1⟩) (S8 Tryz.underlying217 (by kernel_rfl) (J8 (m := 1) V4 rfl (by kernel_rfl) (J8 (m := 1) Z6 rfl (by kernel_rfl) (J8 (m := 1) j4 rfl (by kernel_rfl) V7)))) (fun _ => rfl) (fun _ h => by exact h.2.1)
theorem AN0 : Opens Tryz.prog 132 (List TVer) (fun l => [AV.list 3 (l.map TVer.cs)]) (fun l => (∀ x ∈ l, x.ok)) := N6 id (S5 (sz := 3) N4 (by kernel_rfl) AS0 (fun _ => rfl)) (fun _ => rfl) (fun _ h => h)
theorem AN1 : Opens Tryz.prog 134 TCell TCell.cs (fun c => c.ok) := N6 (fun p => ⟨p.1, p.2.1⟩) (S8 Tryz.underlying134 (by kernel_rfl) (J8 (m := 1) Z6 rfl (by kernel_rfl) (J8 (m := 1) AN0 rfl (by kernel_rfl) V7))) (fun _ => rfl) (fun _ h => by exact ⟨h.1, h.2.1⟩)
theorem AJ6 : Opens Tryz.prog 30 (List TCell) (fun l => [AV.list 2 (l.map TCell.cs)]) (fun l => (∀ x ∈ l, x.ok)) := N6 id (S5 (sz := 2) O0 (by kernel_rfl) AN1 (fun _ => rfl)) (fun _ => rfl) (fun _ h => h)
theorem AS1 : Opens Tryz.prog 99 (List Str) (fun l => [AV.list 1 (l.map fun x => [AV.str x])]) (fun l => (∀ x ∈ l, x.length ≤ 9223372036854775807)) := N6 id (S5 (sz := 1) C7 (by kernel_rfl) Z6 (fun _ => rfl)) (fun _ => rfl) (fun _ h => h)
theorem AJ7 : Opens Tryz.prog 219 TWrite TWrite.cs (fun c => c.ok) := N6 (fun p => ⟨p.1, p.2.1, p.2.2.1⟩) (S8 P0 (by kernel_rfl) (J8 (m := 1) Z6 rfl (by kernel_rfl) (J8 (m := 1) Z6 rfl (by kernel_rfl) (J8 (m := 1) j4 rfl (by kernel_rfl) V7)))) (fun _ => rfl) (fun _ h => by exact ⟨h.1, h.2.1⟩)
theorem AF0 : Opens Tryz.prog 136 (List TWrite) (fun l => [AV.list 3 (l.map TWrite.cs)]) (fun l => (∀ x ∈ l, x.ok)) := N6 id (S5 (sz := 3) N3 (by kernel_rfl) AJ7 (fun _ => rfl)) (fun _ => rfl) (fun _ h => h)
theorem AN2 : Opens Tryz.prog 138 THeld THeld.cs (fun c => c.ok) := N6 (fun p => ⟨p.1, p.2.1, p.2.2.1, p.2.2.2.1, p.2.2.2.2.1⟩) (S8 M4 (by kernel_rfl) (J8 (m := 1) V4 rfl (by kernel_rfl) (J8 (m := 1) V4 rfl (by kernel_rfl) (J8 (m := 1) V4 rfl (by kernel_rfl) (J8 (m := 1) AS1 rfl (by kernel_rfl) (J8 (m := 1) AF0 rfl (by kernel_rfl) V7)))))) (fun _ => rfl) (fun _ h => by exact ⟨h.2.2.2.1, h.2.2.2.2.1⟩)
theorem AJ8 : Opens Tryz.prog 31 (List THeld) (fun l => [AV.list 5 (l.map THeld.cs)]) (fun l => (∀ x ∈ l, x.ok)) := N6 id (S5 (sz := 5) O1 (by kernel_rfl) AN2 (fun _ => rfl)) (fun _ => rfl) (fun _ h => h)
theorem AN3 : Opens Tryz.prog 146 TTold TTold.cs (fun c => True) := N6 (fun p => ⟨p.1, p.2.1, p.2.2.1⟩) (S8 Tryz.underlying146 (by kernel_rfl) (J8 (m := 1) V4 rfl (by kernel_rfl) (J8 (m := 1) j4 rfl (by kernel_rfl) (J8 (m := 1) V4 rfl (by kernel_rfl) V7)))) (fun _ => rfl) (fun _ _ => trivial)
theorem AJ9 : Opens Tryz.prog 32 (List TTold) (fun l => [AV.list 3 (l.map TTold.cs)]) (fun l => True) := N6 id (S5 (sz := 3) Tryz.underlying32 (by kernel_rfl) AN3 (fun _ => rfl)) (fun _ => rfl) (fun _ _ => trivial)
theorem AK0 : Opens Tryz.prog 34 TState TState.cs (fun c => c.ok) := N6 (fun p => ⟨p.1, p.2.1, p.2.2.1, p.2.2.2.1⟩) (S8 M8 (by kernel_rfl) (J8 (m := 1) V4 rfl (by kernel_rfl) (J8 (m := 1) AJ6 rfl (by kernel_rfl) (J8 (m := 1) AJ8 rfl (by kernel_rfl) (J8 (m := 1) AJ9 rfl (by kernel_rfl) V7))))) (fun _ => rfl) (fun _ h => by exact ⟨h.2.1, h.2.2.1⟩)
theorem AF1 : Opens Tryz.prog 22 (List TState) (fun l => [AV.list 4 (l.map TState.cs)]) (fun l => (∀ x ∈ l, x.ok)) := N6 id (S5 (sz := 4) M9 (by kernel_rfl) AK0 (fun _ => rfl)) (fun _ => rfl) (fun _ h => h)
set_option maxRecDepth 100000 in
theorem fnExactSureTo_lifted (os : Os) (started : os.Started) (H : Type) (enc : TypeId × Value → H) :
    ReturnsInHanded {} Tryz.checked os 3 .any (Rows.fnExactSureToSpec.pre6 enc Tryz.prog Tryz.f3 Rows.fnExactSureToRow.domain false) (Rows.fnExactSureToSpec.post enc Tryz.prog Tryz.f3 false true false false) := by
  refine returnsInHanded_of_change (C := Tryz.checked) (by kernel_rfl) started (by kernel_rfl) Tryz.func3
    (ChangeSpec.witness6 (enc := enc) (C := Tryz.checked) false ⟨#[], #[.slice none 0 0], []⟩ 8 (by kernel_rfl) (by kernel_rfl) (by kernel_rfl) (by kernel_rfl)) ?_
  intro W base args ds gs before hval0 hW hcnd _
  have hval : ∀ (j : Nat) t v, Tryz.f3.params[j]? = some t → args[j]? = some v → Value.okWide Tryz.prog W .any base t v := hval0
  have hW2 := hW
  obtain ⟨p, q, hA0, hV, rfl, hfz, hnd⟩ := hW
  have hA : DataW.TrodAll enc Tryz.prog W 0 (fun _ => true) true Tryz.f3.params.toList args.toList ds p := hA0
  rw [Tryz.params3] at hA hval
  obtain ⟨v0, vs0, d0, ds0, p0, q0, hargs, rfl, rfl, h0, r0⟩ := trodAll_cons hA
  obtain ⟨rfl, rfl, rfl⟩ := trodAll_nil r0
  obtain rfl : args = #[v0] := by cases args; simp_all
  obtain ⟨rfl, rfl⟩ := trodVars_none hV
  have lt0 : ∀ x ∈ p0, x.block < W.heap.size := by obtain ⟨m, hm⟩ := h0; exact DataW.trod_lt m _ _ _ hm
  obtain ⟨a0, w0, g0⟩ := arg_one (AF1) (by obtain ⟨y1, y2, y3, rfl⟩ := okWide_slice M9 (hval 0 22 v0 rfl rfl); rfl) h0
  have hcall := AV0 (n4 a0 w0) (DenV.cons g0 (DenV.nil _))
  clear hA0 hval0
  refine Calls.mono hcall fun e W2 ⟨he, bel⟩ => ?_
  subst he
  exact ⟨_, rfl, _, _, _, [], _, [], hW2, trodAll_mk1 (shut_bool O8 _), (trodAll_cons_mk (Below.trod (by kernel_rfl : laidOutB Tryz.prog = true) (by kernel_rfl) (of_decide_eq_true (by kernel_rfl)) h0 bel lt0) trodAll_mk0), rfl, bel.frame _, fun h => by cases h⟩
theorem o2 {a b : Bool} (h : a = true) (k : b = true) : (a && b) = true := by rw [h, k]; rfl
set_option maxRecDepth 100000 in
theorem l6 : joinedFacts Tryz.pinned.checked.prog 3 Tryz.f3 Rows.fnExactSureToSpec Rows.fnExactSureToRow = true := by
  unfold joinedFacts
  iterate 18 (rw [Bool.and_assoc])
  refine o2 ?_ ?_
  · as_aux_lemma => kernel_rfl
  · as_aux_lemma => kernel_rfl
theorem fnExactSureTo_proved : Rows.FnExactSureToSaid :=
  OpenClaim.holds_of_wide 3 Tryz.f3 rfl rfl rfl rfl rfl rfl rfl ⟨rfl, rfl, rfl, rfl, rfl⟩ rfl rfl rfl rfl rfl (by kernel_rfl) Tryz.func3 l6
    (of_decide_eq_true (by kernel_rfl)) (by unfold Func.isWrapper; first | (rw [if_pos (by decide +kernel)]; kernel_rfl) | (rw [if_neg (by decide +kernel)]; exact ⟨rfl, rfl⟩))
    (fun os started H enc _ => fnExactSureTo_lifted os started H enc)
end Go.Proofs.YtkegepoihkhihaaGreat
