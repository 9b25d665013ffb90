/- Texts of the claim, part 4. -/
import Derived.Test.YtkegepoihkhihaaGreatZRefeed3

set_option linter.unusedVariables false
set_option linter.unusedSimpArgs false
set_option maxRecDepth 100000
set_option maxHeartbeats 1000000
namespace Go.M
open Go.AV
theorem BA2 {l : List TWrite} (h : adj wLess l = true) (k : Str) : wHas l k = hasK l k := by
  have e := findW_eq h k
  cases hw : wHas l k with
  | true =>
    obtain ⟨x, hx, hk⟩ := wHas_iff.1 hw
    exact (f8.2 ⟨x, G4 hx, hk⟩).symm
  | false =>
    rw [hw] at e
    simp only [Bool.false_eq_true, if_false] at e
    unfold findW at e
    rw [List.find?_eq_none] at e
    cases hk : hasK l k with
    | false => rfl
    | true => obtain ⟨x, hx, hxk⟩ := f8.1 hk; have := e x hx; simp [hxk] at this
theorem Aw1 {w : List TWrite} (h : goodWrites w = true) : adj wLess w = true := by
  unfold goodWrites areRising wKeys at h
  simp only [Bool.and_eq_true] at h
  have := h.1.2.2
  rw [AO0] at this
  exact this
theorem BA3 {l : List TCell} (ha : adj cLess l = true) {k : Str} {c : TCell} (hc : cHas l k = true → l[cPos l k]? = some c) : fullC l k = (cHas l k && decide ((16 : Int) ≤ (c.Vers.length : Int))) := by
  unfold fullC
  rw [AS6 ha]
  cases h : cHas l k with
  | false => simp
  | true =>
    rw [if_pos rfl, hc h, Bool.true_and]
    dsimp only
    rw [decide_eq_decide]; omega
theorem W9 {l : List THeld} {i : Nat} {h : THeld} {n : Nat} (hs : sizeL THeld.size l ≤ n) (hx : l[i]? = some h) : h.size ≤ n ∧ sizeL TWrite.size h.Writes ≤ n ∧ h.Writes.length ≤ n ∧ h.Reads.length ≤ n ∧ (hRec h).size ≤ n := by
  have h1 := Nat.le_trans (Z2 hx) hs
  have h2 : h.size = sizeL (fun x => x.length) h.Reads + sizeL TWrite.size h.Writes := rfl
  have h3 := O3 (f := fun x : Str => x.length) (l := h.Reads)
  have h4 := O3 (f := TWrite.size) (l := h.Writes)
  have h5 : (hRec h).size = sizeL (fun x => x.length) h.Reads + sizeL TWrite.size h.Writes := rfl
  exact ⟨by omega, by omega, by omega, by omega, by omega⟩
theorem Ah1 {α : Type} {f : α → Nat} {l : List α} (i : Nat) : sizeL f (l.take i) ≤ sizeL f l := by
  have := p7 (f := f) (l := l.take i) (r := l.drop i)
  rw [List.take_append_drop] at this; omega
theorem AZ6 : ∀ {l : List THeld}, (hWs l).length ≤ sizeL THeld.size l
  | [] => Nat.zero_le _
  | h :: l => by
    have ih := AZ6 (l := l)
    have h4 := O3 (f := TWrite.size) (l := h.Writes)
    have h2 : h.size = sizeL (fun x => x.length) h.Reads + sizeL TWrite.size h.Writes := rfl
    rw [AB4, I5, N7]; omega
theorem Al9 {l : List THeld} {i : Nat} {h : THeld} (hx : l[i]? = some h) : hWs (l.take (i + 1)) = hWs (l.take i) ++ h.Writes := by
  rw [List.take_add_one, hx, AV6]
  show _ ++ hWs [h] = _
  rw [AB4]; simp [hWs]
def hCmp (n : Int) (h : THeld) : Int := cmpInt h.Txn n
def hPos (l : List THeld) (n : Int) : Nat := bs (hCmp n) l 0 l.length
def hHas (l : List THeld) (n : Int) : Bool := bsAt (hCmp n) l (hPos l n)
theorem AH9 (a b : Int) : cmpInt a b < 0 ↔ a < b := by unfold cmpInt; split <;> (try split) <;> omega
theorem AQ5 (a b : Int) : cmpInt a b = 0 ↔ a = b := by unfold cmpInt; split <;> (try split) <;> omega
theorem AO4 {α : Type} {f : α → Int} {l : List α} (h : l.Pairwise fun a b => f a < f b) {i j : Nat} {x y : α} (hij : i < j) (hx : l[i]? = some x) (hy : l[j]? = some y) : f x < f y := by
  obtain ⟨i1, i2⟩ := List.getElem?_eq_some_iff.1 hx
  obtain ⟨j1, j2⟩ := List.getElem?_eq_some_iff.1 hy
  have := List.pairwise_iff_getElem.1 h i j i1 j1 hij
  rw [i2, j2] at this; exact this
theorem bsI_spec {α : Type} {f : α → Int} {l : List α} (h : l.Pairwise fun a b => f a < f b) (n : Int) : (∀ i x, i < bs (fun a => cmpInt (f a) n) l 0 l.length → l[i]? = some x → f x < n) ∧ (∀ x, l[bs (fun a => cmpInt (f a) n) l 0 l.length]? = some x → n ≤ f x) := by
  have := AY8 (fun a => cmpInt (f a) n) l (fun i j x y hij hx hy hf => by
    rw [AH9] at *
    have := AO4 h hij hx hy; omega) l.length 0 l.length rfl (Nat.zero_le _) (Nat.le_refl _) (fun k x hk => by omega) (fun x hx => by rw [List.getElem?_eq_none (Nat.le_refl _)] at hx; cases hx)
  exact ⟨fun i x hi hx => (AH9 _ _).1 (this.1 i x hi hx), fun x hx => by have := this.2 x hx; rw [AH9] at this; omega⟩
theorem bsI_has {α : Type} {f : α → Int} {l : List α} (h : l.Pairwise fun a b => f a < f b) (n : Int) : bsAt (fun a => cmpInt (f a) n) l (bs (fun a => cmpInt (f a) n) l 0 l.length) = l.any fun a => f a == n := by
  obtain ⟨h1, h2⟩ := bsI_spec h n
  cases ha : l.any fun a => f a == n with
  | true =>
    rw [List.any_eq_true] at ha
    obtain ⟨x, hx, e⟩ := ha
    obtain ⟨i, hi⟩ := List.getElem?_of_mem hx
    have e : f x = n := by simpa using e
    have hip : bs (fun a => cmpInt (f a) n) l 0 l.length = i := by
      rcases Nat.lt_trichotomy i (bs (fun a => cmpInt (f a) n) l 0 l.length) with h3 | h3 | h3
      · have := h1 i x h3 hi; omega
      · exact h3.symm
      · have hl := (List.getElem?_eq_some_iff.1 hi).1
        have hy := List.getElem?_eq_getElem (show bs (fun a => cmpInt (f a) n) l 0 l.length < l.length by omega)
        have h4 := h2 _ hy
        have h5 := AO4 h h3 hy hi; omega
    rw [hip]
    unfold bsAt
    rw [hi]
    simp only [(AQ5 _ _).2 e]; rfl
  | false =>
    rw [List.any_eq_false] at ha
    unfold bsAt
    cases e : l[bs (fun a => cmpInt (f a) n) l 0 l.length]? with
    | none => rfl
    | some x =>
      have := ha x (G4 e)
      simp only [beq_iff_eq] at this ⊢
      rw [beq_eq_false_iff_ne]
      exact fun k => this ((AQ5 _ _).1 k)
theorem At5 {l : List THeld} (h : l.Pairwise fun a b => a.Txn < b.Txn) (n : Int) : hHas l n = hasH l n := bsI_has (f := THeld.Txn) h n
theorem V8 {s : TState} {n : Nat} (h : s.size ≤ n) : sizeL TCell.size s.Cells ≤ n ∧ sizeL THeld.size s.Held ≤ n ∧ s.Told.length ≤ n ∧ s.Cells.length ≤ n ∧ s.Held.length ≤ n := by
  have h1 : s.size = sizeL TCell.size s.Cells + sizeL THeld.size s.Held + s.Told.length := rfl
  have h2 := O3 (f := TCell.size) (l := s.Cells)
  have h3 := O3 (f := THeld.size) (l := s.Held)
  exact ⟨by omega, by omega, by omega, by omega, by omega⟩
theorem w7 {s : TState} {i : Nat} {h y : THeld} (hx : s.Held[i]? = some h) (hy : s.Held[i - 1]? = some y) : heldAt s i = (!(((!goodRec (hRec h) || decide (s.Floor < h.Time)) || (decide ((0 : Int) < (i : Int)) && decide (h.Txn ≤ y.Txn)))) && (!((s.Held.take i).any fun g => clash h g) && !(h.Writes.any fun w => decide (h.Time ≤ lastTime s.Cells w.Key)))) := by
  unfold heldAt
  rw [hx]
  have h1 : hPrev s.Held i h.Txn = !(decide ((0 : Int) < (i : Int)) && decide (h.Txn ≤ y.Txn)) := by
    unfold hPrev; rw [hy]; dsimp only
    congr 2
    rw [decide_eq_decide]; omega
  have h2 : ((s.Held.take i).all fun g => apart g h.Reads h.Writes) = !((s.Held.take i).any fun g => clash h g) := by
    rw [List.not_any_eq_all_not]; congr 1; funext g; rw [AP8, Bool.not_not]
  have h3 : (h.Writes.all fun w => decide (lastTime s.Cells w.Key < h.Time)) = !(h.Writes.any fun w => decide (h.Time ≤ lastTime s.Cells w.Key)) := by
    rw [List.not_any_eq_all_not]; congr 1; funext w; rw [← decide_not, decide_eq_decide]; omega
  dsimp only
  rw [h1, h2, h3]
  simp only [Bool.not_or, Bool.not_not, Bool.and_assoc]
theorem AQ6 {s : TState} {i : Nat} {h : THeld} (hx : s.Held[i]? = some h) (hg : heldAt s i = true) : goodRec (hRec h) = true ∧ ∀ g, 0 < i → s.Held[i - 1]? = some g → g.Txn < h.Txn := by
  unfold heldAt at hg
  rw [hx] at hg
  simp only [Bool.and_eq_true, AL5] at hg
  exact ⟨hg.1.1.1.1, hg.1.1.2⟩
theorem AT1 {h : THeld} (hg : goodRec (hRec h) = true) : adj wLess h.Writes = true := by
  unfold goodRec hRec at hg
  rw [if_pos rfl] at hg
  unfold good1 at hg
  simp only [Bool.and_eq_true] at hg
  exact Aw1 hg.1.1.2
theorem Am0 {s : TState} (h : areHeld s = true) : s.Held.Pairwise fun a b => a.Txn < b.Txn := by
  unfold areHeld at h
  rw [Bool.and_eq_true, k0] at h
  exact AH4 fun i x y h0 hx hy => (AQ6 hx (h.1 i (List.getElem?_eq_some_iff.1 hx).1)).2 y h0 hy
theorem AD4 {s : TState} {i : Nat} {t y : TTold} (hx : s.Told[i]? = some t) (hy : s.Told[i - 1]? = some y) : toldAt s i = (!((!isTxnR t.Txn || !((t.Yes && within t.Time 1 s.Floor) || (!t.Yes && (t.Time == 0)))) || (decide ((0 : Int) < (i : Int)) && decide (t.Txn ≤ y.Txn))) && !hasH s.Held t.Txn) := by
  unfold toldAt
  rw [hx]
  have h1 : tPrev s.Told i t.Txn = !(decide ((0 : Int) < (i : Int)) && decide (t.Txn ≤ y.Txn)) := by
    unfold tPrev; rw [hy]; dsimp only
    congr 2
    rw [decide_eq_decide]; omega
  have h2 : tFits s t = ((t.Yes && within t.Time 1 s.Floor) || (!t.Yes && (t.Time == 0))) := by
    unfold tFits; cases t.Yes <;> simp
  dsimp only
  rw [h1, h2]
  generalize ((t.Yes && within t.Time 1 s.Floor) || (!t.Yes && (t.Time == 0))) = b
  simp only [Bool.not_or, Bool.not_not, Bool.and_assoc]
end Go.M
namespace Go.Proofs.YtkegepoihkhihaaGreat
open Go Go.AV Go.M
attribute [local irreducible] OpW OpA OpS AWP FSpec ESpec GSpec OpE RetOk RetOkG RvDen Le Ev GuardIs SrcIs Int.tmod Int.tdiv IntKind.wrap
theorem Ah2 (w : TWrite) (os : List TWrite) (rs : List Str) (hs : os.length ≤ 4611686018427387903) (ha : adj wLess os = true) : FSpec Tryz.prog 218 [AV.agg w.cs, AV.eptr [AV.list 3 (os.map TWrite.cs)], AV.eptr [strs rs]] (AV.bool (hasK os w.Key || hasS rs w.Key)) := by
 have hwh := BA2 ha w.Key
 refine E5 Tryz.func218 rfl Tryz.ntmps218 rfl ?_
 refine A3 (A2 ?_)
 refine N8 rfl rfl rfl rfl (A0 rfl) ?_
 intro b3
 refine A1 rfl (B7 rfl F5) ?_
 refine A4 (A3 (A2 ?_))
 refine A1 rfl (N4 rfl (A0 rfl) L9 rfl) ?_
 refine A1 rfl (B1 0 rfl J0 rfl E8 (A0 rfl) rfl) ?_
 refine A1 rfl (B0 0 rfl (A0 rfl) rfl G5 rfl) ?_
 refine A1 rfl (E4 rfl Tryz.call219 rfl (AZ2 _ _ (by omega)) (A7 (A0 rfl) (A7 (A0 rfl) C6))) ?_
 refine A5 rfl ?_
 refine A1 rfl (H8 rfl (A0 rfl) rfl) ?_
 refine A1 rfl (H8 rfl (A0 rfl) rfl) ?_
 refine B5 rfl ?_
 refine B5 rfl ?_
 refine A4 (A3 (A2 ?_))
 refine A5 rfl ?_
 refine A5 rfl ?_
 refine J5 rfl (fun hc => N4 rfl (A0 rfl) P6 rfl) ?_
 refine J5 rfl (fun hc => B1 0 rfl J0 rfl E8 (A0 rfl) rfl) ?_
 refine J5 rfl (fun hc => B0 0 rfl (A6 rfl hc) rfl G5 rfl) ?_
 refine J5 rfl (fun hc => E4 rfl Tryz.call220 rfl (AJ9 _ _) (A7 (A6 rfl hc) (A7 (A6 rfl hc) C6))) ?_
 refine A1 rfl (T5 rfl (A0 rfl) (F6 rfl)) ?_
 refine B5 rfl ?_
 refine A4 ?_
 refine C5 ?_
 exact H5 rfl (C3 rfl (by exact congrArg AV.bool (by rw [hwh]; rfl)))
theorem AM2 (ws : List TWrite) (rs : List Str) (os : List TWrite) (hs : os.length ≤ 4611686018427387903) (ha : adj wLess os = true) : FSpec Tryz.prog 187 [AV.list 3 (ws.map TWrite.cs), strs rs, AV.list 3 (os.map TWrite.cs)] (AV.bool (overlap ws rs os)) := by
 refine E5 Tryz.func187 rfl Tryz.ntmps187 rfl ?_
 refine A3 (A2 ?_)
 refine As0 rfl rfl rfl rfl (A0 rfl) (AR6 _ _) ?_
 intro b4
 refine As0 rfl rfl rfl rfl (A0 rfl) (AR6 _ _) ?_
 intro b5
 refine A1 rfl (B7 rfl F5) ?_
 refine A4 (A3 (A2 ?_))
 refine A5 rfl ?_
 refine A1 rfl (w_clo rfl rfl (A7 (A0 rfl) (A7 (A0 rfl) C6))) ?_
 refine A1 rfl (g8 rfl Tryz.call141 rfl (d5 _ _ _ (by first | (intros; trivial) | assumption | (intros; first | trivial | (simp_all; done)))) (D0 _) (Q4 (evb (A0 rfl)) (Q4 (AG3 (Aj8 0 1 (A0 rfl) rfl rfl) (AR8 Tryz.call218 (fun w (_ : True) => Ah2 w _ _ (by first | assumption | omega) (by assumption)))) X3))) ?_
 refine B5 rfl ?_
 refine A4 ?_
 refine C5 ?_
 exact H5 rfl (C3 rfl (by first | rfl | (refine congrArg AV.bool ?_; simp_all; done)))
theorem Aw2 (h k : THeld) (h1 : h.Writes.length ≤ 4611686018427387903) (k1 : k.Writes.length ≤ 4611686018427387903) (ha : adj wLess h.Writes = true) (ka : adj wLess k.Writes = true) : FSpec Tryz.prog 140 [AV.agg h.cs, AV.agg k.cs] (AV.bool (clash h k)) := by
 refine E5 Tryz.func140 rfl Tryz.ntmps140 rfl ?_
 refine A3 (A2 ?_)
 refine N8 rfl rfl rfl rfl (A0 rfl) ?_
 intro b2
 refine N8 rfl rfl rfl rfl (A0 rfl) ?_
 intro b3
 refine A1 rfl (B7 rfl F5) ?_
 refine A4 (A3 (A2 ?_))
 refine A1 rfl (B1 4 rfl F1 rfl K2 (A0 rfl) rfl) ?_
 refine A1 rfl (B0 1 rfl (A0 rfl) rfl L9 rfl) ?_
 refine A1 rfl (B1 3 rfl F1 rfl M7 (A0 rfl) rfl) ?_
 refine A1 rfl (B0 0 rfl (A0 rfl) rfl P6 rfl) ?_
 refine A1 rfl (B1 4 rfl F1 rfl K2 (A0 rfl) rfl) ?_
 refine A1 rfl (B0 0 rfl (A0 rfl) rfl L9 rfl) ?_
 refine A1 rfl (E4 rfl Tryz.call187 rfl (AM2 _ _ _ (by first | assumption | omega) (by assumption)) (A7 (A0 rfl) (A7 (A0 rfl) (A7 (A0 rfl) C6)))) ?_
 refine A5 rfl ?_
 refine J5 rfl (fun hc => B1 4 rfl F1 rfl K2 (A0 rfl) rfl) ?_
 refine J5 rfl (fun hc => B0 0 rfl (A6 rfl hc) rfl L9 rfl) ?_
 refine J5 rfl (fun hc => B1 3 rfl F1 rfl M7 (A0 rfl) rfl) ?_
 refine J5 rfl (fun hc => B0 1 rfl (A6 rfl hc) rfl P6 rfl) ?_
 refine J5 rfl (fun hc => B1 4 rfl F1 rfl K2 (A0 rfl) rfl) ?_
 refine J5 rfl (fun hc => B0 1 rfl (A6 rfl hc) rfl L9 rfl) ?_
 refine J5 rfl (fun hc => E4 rfl Tryz.call187 rfl (AM2 _ _ _ (by first | assumption | omega) (by assumption)) (A7 (A6 rfl hc) (A7 (A6 rfl hc) (A7 (A6 rfl hc) C6)))) ?_
 refine A1 rfl (T5 rfl (A0 rfl) (F6 rfl)) ?_
 refine B5 rfl ?_
 refine A4 ?_
 refine C5 ?_
 exact H5 rfl (C3 rfl (by first | rfl | (refine congrArg AV.bool ?_; simp_all; done)))
theorem rec_spec (h : THeld) : FSpec Tryz.prog 137 [AV.agg h.cs] (AV.agg (hRec h).cs) := by
 refine E5 Tryz.func137 rfl Tryz.ntmps137 rfl ?_
 refine A3 (A2 ?_)
 refine N8 rfl rfl rfl rfl (A0 rfl) ?_
 intro b1
 refine F9 rfl rfl rfl rfl Tryz.zeroValue104 rfl ?_
 intro b2
 refine A4 (A3 (A2 ?_))
 refine A1 rfl (B1 0 rfl F1 rfl B3 (A0 rfl) rfl) ?_
 refine A1 rfl (B0 1 rfl (A0 rfl) rfl B9 rfl) ?_
 refine A1 rfl (B1 1 rfl F1 rfl B3 (A0 rfl) rfl) ?_
 refine A1 rfl (B0 1 rfl (A0 rfl) rfl B9 rfl) ?_
 refine A1 rfl (B1 2 rfl F1 rfl B3 (A0 rfl) rfl) ?_
 refine A1 rfl (B0 1 rfl (A0 rfl) rfl B9 rfl) ?_
 refine A1 rfl (B1 3 rfl F1 rfl M7 (A0 rfl) rfl) ?_
 refine A1 rfl (B0 1 rfl (A0 rfl) rfl P6 rfl) ?_
 refine A1 rfl (B1 4 rfl F1 rfl K2 (A0 rfl) rfl) ?_
 refine A1 rfl (B0 1 rfl (A0 rfl) rfl L9 rfl) ?_
 refine A1 rfl (O0 (places := #[(0, 1), (1, 1), (2, 1), (3, 1), (4, 1), (5, 1), (6, 1)]) rfl B4 Tryz.zeroValue104 (fun w => by kernel_rfl) rfl (D9 B6 (K5 _ _) (D9 (A0 rfl) (K5 _ _) (D9 (A0 rfl) (K5 _ _) (D9 (A0 rfl) (K5 _ _) (D9 (A0 rfl) (U8 _ _) (D9 (A0 rfl) (U8 _ _) H7)))))) rfl) ?_
 refine D6 0 rfl rfl rfl (A0 rfl) (A0 rfl) (E7 _) rfl F8 rfl ?_
 refine A4 ?_
 refine C5 ?_
 exact H5 rfl (L1 (ys := _) 0 rfl rfl M8 F8 rfl)
theorem Am1 {l : List TCell} {h : List THeld} (a b : Nat) (hl : sizeL TCell.size l ≤ 1048576) (hh : sizeL THeld.size h ≤ 1048576) : (cKeys (l.take a) ++ wKeys (hWs (h.take b))).length ≤ 2097152 := by
  have h1 := O3 (f := TCell.size) (l := l)
  have h2 := AZ6 (l := h.take b)
  have h3 := Ah1 (f := THeld.size) (l := h) b
  unfold cKeys wKeys
  simp only [I5, A8, F0]
  omega
theorem BA4 (s : TState) (held : List THeld) (hg : goodCells s.Cells = true) (hs : s.size ≤ 1048576) (hh : sizeL THeld.size held ≤ 1048576) : FSpec Tryz.prog 143 [AV.agg s.cs, AV.list 5 (held.map THeld.cs)] (AV.bool (decide (held.length ≤ 12) && room s.Cells (hWs held))) := by
 obtain ⟨hs1, hs2, hs3, hs4, hs5⟩ := V8 hs
 have hca := (U0 hg).2.1
 have hhl := O3 (f := THeld.size) (l := held)
 obtain ⟨p, hp⟩ : ∃ p : TWrite → Bool, p = fun w => !fullC s.Cells w.Key := ⟨_, rfl⟩
 refine E5 Tryz.func143 rfl Tryz.ntmps143 rfl ?_
 refine A3 (A2 ?_)
 refine N8 rfl rfl rfl rfl (A0 rfl) ?_
 intro b2
 refine A1 rfl (B7 rfl F5) ?_
 refine A4 (A3 (A2 ?_))
 refine R7 rfl rfl rfl rfl E3 E8 ?_
 intro v14
 refine B5 rfl ?_
 refine A4 (A3 (A3 (A2 ?_)))
 refine A1 rfl (B1 1 rfl C0 rfl N9 (A0 rfl) rfl) ?_
 refine A1 rfl (B0 1 rfl (A0 rfl) rfl Q1 rfl) ?_
 refine A1 rfl (G9 rfl E9 (A0 rfl)) ?_
 refine A1 rfl (C1 rfl B6) ?_
 refine A4 (C8 ?_)
 refine X0 [(1, _), (2, _), (4, _), (16, _), (17, _)] _ (fun (i : Nat) (v : Value) (ks : List Str) => i ≤ s.Cells.length ∧ ks = cKeys (s.Cells.take i)) (fun (i : Nat) (v : Value) (ks : List Str) => [.arr v 9 1 (ks.map fun k => [AV.str k])]) (fun (i : Nat) (v : Value) (ks : List Str) => [(5, AV.is v), (18, AV.int i)]) (fun (i : Nat) (v : Value) (ks : List Str) => s.Cells.length - i) (0) (v14) ([]) ?_ (P8 (by rfl) ⟨rfl, rfl, rfl, rfl, rfl, rfl, rfl, trivial⟩) ?_
 ·exact ⟨Nat.zero_le _, rfl⟩
 intro i v ks hinv
 refine A3 (A2 ?_)
 refine A1 rfl (J6 rfl (A0 rfl) (A0 rfl)) ?_
 refine A4 (A3 ?_)
 refine C4 (A0 rfl) ?_ ?_
 ·intro h19
  have k19 := of_decide_eq_true h19; try simp only [A8] at k19
  have hlt : i < s.Cells.length := by omega
  obtain ⟨c, hx⟩ := get_some hlt
  have hkl : ks.length ≤ 1048576 := by rw [hinv.2]; unfold cKeys; rw [A8, F0]; omega
  refine C7 (A3 (C8 (A3 (A2 ?_))))
  refine A1 rfl (I9 rfl E9 G0 (A0 rfl) (A0 rfl) hx (by first | omega | (simp only [D3, A9, szR] at *; omega))) ?_
  refine A1 rfl (K6 rfl (A0 rfl) U6 G0) ?_
  refine F9 rfl rfl rfl rfl Tryz.zeroValue125 rfl ?_
  intro b7
  refine D6 0 rfl rfl rfl (A0 rfl) (A0 rfl) (E7 _) rfl G0 rfl ?_
  refine A4 (A2 ?_)
  refine A5 rfl ?_
  refine A1 rfl (B1 0 rfl G7 rfl E8 (A0 rfl) rfl) ?_
  refine A1 rfl (B0 0 rfl (A0 rfl) rfl G5 rfl) ?_
  refine A1 rfl (L0 rfl E3 E8 Tryz.zeroValue9 rfl rfl rfl rfl (D9 (A0 rfl) (P2 _) H7) rfl rfl) ?_
  refine M0 (by' := 16) 1 rfl rfl rfl rfl E3 Tryz.type9 rfl rfl rfl rfl rfl rfl (A0 rfl) (A0 rfl) rfl (by first | omega | (simp only [D3, A9, szR] at *; omega)) ?_
  intro v26_1
  refine B5 rfl ?_
  refine A4 (A2 ?_)
  refine A1 rfl (G8 rfl (A0 rfl) B6 (by first | omega | (simp only [D3, A9, szR] at *; omega))) ?_
  refine A5 rfl ?_
  refine A4 ?_
  refine W0 i v ks (i + 1) (v26_1) (ks ++ [c.Key]) ?_ ?_ (L7 1 (by (rw [List.map_append]; rfl)) ⟨rfl, rfl, rfl, rfl, rfl, rfl, rfl, trivial⟩)
  ·exact ⟨by omega, by rw [hinv.2]; unfold cKeys; rw [List.take_add_one, hx, List.map_append]; rfl⟩
  omega
 intro h19
 have k19 := of_decide_eq_false h19; try simp only [A8] at k19
 have hge : s.Cells.length ≤ i := by omega
 have hks : ks = cKeys s.Cells := by rw [hinv.2, List.take_of_length_le hge]
 refine G6 ?_
 refine A3 (A3 (A2 ?_))
 refine A5 rfl ?_
 refine A1 rfl (G9 rfl E1 (A0 rfl)) ?_
 refine A1 rfl (C1 rfl B6) ?_
 refine A4 (C8 ?_)
 refine X0 [(1, _), (2, _), (28, _), (29, _)] _ (fun (q : Nat) (v1 : Value) (k1 : List Str) => q ≤ held.length ∧ k1 = cKeys s.Cells ++ wKeys (hWs (held.take q)) ∧ (hWs held).all p = (hWs (held.drop q)).all p) (fun (q : Nat) (v1 : Value) (k1 : List Str) => [.arr v1 9 1 (k1.map fun k => [AV.str k])]) (fun (q : Nat) (v1 : Value) (k1 : List Str) => [(5, AV.is v1), (30, AV.int q)]) (fun (q : Nat) (v1 : Value) (k1 : List Str) => held.length - q) (0) (v) (ks) ?_ (P8 (by rfl) ⟨rfl, rfl, rfl, rfl, rfl, rfl, trivial⟩) ?_
 ·exact ⟨Nat.zero_le _, by rw [hks, List.take_zero]; simp [hWs, wKeys], rfl⟩
 intro q v1 k1 hinv
 refine A3 (A2 ?_)
 refine A1 rfl (J6 rfl (A0 rfl) (A0 rfl)) ?_
 refine A4 (A3 ?_)
 refine C4 (A0 rfl) ?_ ?_
 ·intro h31
  have k31 := of_decide_eq_true h31; try simp only [A8] at k31
  have hlt : q < held.length := by omega
  obtain ⟨h, hh0⟩ := get_some hlt
  obtain ⟨g1, g2, g3, g4, g5⟩ := W9 hh hh0
  have hinv1 := hinv
  refine C7 (A3 (C8 (A3 (A2 ?_))))
  refine A1 rfl (I9 rfl E1 D4 (A0 rfl) (A0 rfl) hh0 (by first | omega | (simp only [D3, A9, szR] at *; omega))) ?_
  refine A1 rfl (K6 rfl (A0 rfl) I6 D4) ?_
  refine F9 rfl rfl rfl rfl Tryz.zeroValue141 rfl ?_
  intro b9
  refine D6 0 rfl rfl rfl (A0 rfl) (A0 rfl) (E7 _) rfl D4 rfl ?_
  refine A4 (A3 (A2 ?_))
  refine A1 rfl (B1 4 rfl F1 rfl K2 (A0 rfl) rfl) ?_
  refine A1 rfl (B0 0 rfl (A0 rfl) rfl L9 rfl) ?_
  refine A1 rfl (G9 rfl G3 (A0 rfl)) ?_
  refine A1 rfl (C1 rfl B6) ?_
  refine A4 (C8 ?_)
  refine AWP.le (H4 [1] rfl) ?_
  refine X0 [(1, _), (2, _), (9, _), (28, _), (29, _), (30, _), (31, _), (32, _), (33, _), (34, _), (35, _), (36, _)] _ (fun (r : Nat) (v2 : Value) (k2 : List Str) => r ≤ h.Writes.length ∧ k2 = k1 ++ wKeys (h.Writes.take r) ∧ h.Writes.all p = (h.Writes.drop r).all p) (fun (r : Nat) (v2 : Value) (k2 : List Str) => [.arr v2 9 1 (k2.map fun k => [AV.str k])]) (fun (r : Nat) (v2 : Value) (k2 : List Str) => [(5, AV.is v2), (37, AV.int r)]) (fun (r : Nat) (v2 : Value) (k2 : List Str) => h.Writes.length - r) (0) (v1) (k1) ?_ (P8 (by rfl) ⟨rfl, rfl, rfl, rfl, rfl, rfl, rfl, rfl, rfl, rfl, rfl, rfl, rfl, rfl, trivial⟩) ?_
  ·exact ⟨Nat.zero_le _, by simp [wKeys], rfl⟩
  intro r v2 k2 hinv
  refine A3 (A2 ?_)
  refine A1 rfl (J6 rfl (A0 rfl) (A0 rfl)) ?_
  refine A4 (A3 ?_)
  refine C4 (A0 rfl) ?_ ?_
  ·intro h38
   have k38 := of_decide_eq_true h38; try simp only [A8] at k38
   have hlt2 : r < h.Writes.length := by omega
   obtain ⟨w, hw⟩ := get_some hlt2
   obtain ⟨c, hc0⟩ := AA5 s.Cells (cPos s.Cells w.Key)
   have hc1 : cHas s.Cells w.Key = true → s.Cells[cPos s.Cells w.Key]? = some c := fun e => by (obtain ⟨y, hy, _⟩ := AH0.1 e; exact hc0 (List.getElem?_eq_some_iff.1 hy).1)
   have hfu := BA3 hca hc1
   have hk2l : k2.length ≤ 3145728 := by rw [hinv.2.1, hinv1.2.1]; have := Am1 s.Cells.length q hs1 hh; rw [List.take_length] at this; unfold wKeys at this ⊢; simp only [I5, A8, F0] at this ⊢; omega
   refine C7 (A3 (C8 (A3 (A2 ?_))))
   refine A1 rfl (I9 rfl G3 I3 (A0 rfl) (A0 rfl) hw (by first | omega | (simp only [D3, A9, szR] at *; omega))) ?_
   refine A1 rfl (K6 rfl (A0 rfl) U5 I3) ?_
   refine F9 rfl rfl rfl rfl Tryz.zeroValue101 rfl ?_
   intro b11
   refine D6 0 rfl rfl rfl (A0 rfl) (A0 rfl) (E7 _) rfl I3 rfl ?_
   refine A4 (A3 (A3 (A2 ?_)))
   refine A1 rfl (B1 1 rfl C0 rfl N9 (A0 rfl) rfl) ?_
   refine A1 rfl (B0 3 rfl (A0 rfl) rfl Q1 rfl) ?_
   refine A1 rfl (B1 0 rfl J0 rfl E8 (A0 rfl) rfl) ?_
   refine A1 rfl (B0 0 rfl (A0 rfl) rfl G5 rfl) ?_
   refine A1 rfl (E4 rfl Tryz.call122 rfl (AJ4 s.Cells w.Key (by omega)) (A7 (A0 rfl) (A7 (A0 rfl) C6))) ?_
   refine A5 rfl ?_
   refine A1 rfl (H8 rfl (A0 rfl) rfl) ?_
   refine A1 rfl (H8 rfl (A0 rfl) rfl) ?_
   refine B5 rfl ?_
   refine B5 rfl ?_
   refine A4 (A3 (A2 ?_))
   refine A5 rfl ?_
   refine A5 rfl ?_
   refine C9 rfl (fun hc => B1 1 rfl C0 rfl N9 (A0 rfl) rfl) ?_
   refine C9 rfl (fun hc => B0 3 rfl (A6 rfl hc) rfl Q1 rfl) ?_
   refine C9 rfl (fun hc => C1 rfl (A0 rfl)) ?_
   refine C9 rfl (fun hc => i6 rfl E9 G0 (A6 rfl hc) (A6 rfl hc) (by have := (List.getElem?_eq_some_iff.1 (hc1 hc)).1; omega) (by rw [Int.toNat_natCast, List.getElem?_map, hc1 hc]; rfl)) ?_
   refine C9 rfl (fun hc => V1 rfl G7 rfl P0 (A6 rfl hc) rfl) ?_
   refine C9 rfl (fun hc => N4 rfl (A6 rfl hc) R8 rfl) ?_
   refine C9 rfl (fun hc => G9 rfl K1 (A6 rfl hc)) ?_
   refine C9 rfl (fun hc => Z9 rfl (A6 rfl hc) B6) ?_
   refine A1 rfl (H6 rfl (A0 rfl) (F6 rfl)) ?_
   refine A4 ?_
   refine C4 (A0 rfl) ?_ ?_
   ·intro h59
    have hpw : p w = false := by rw [hp]; simp only [Bool.not_eq_false']; rw [hfu]; simpa using h59
    have hro : room s.Cells (hWs held) = false := by (unfold room; rw [show ((hWs held).all fun w => !fullC s.Cells w.Key) = false from by rw [← hp, hinv1.2.2, drop_some hh0, AB4, List.all_append, hinv.2.2, drop_some hw, List.all_cons, hpw]; rfl]; rfl)
    refine A3 (A2 ?_)
    refine A1 rfl (B7 rfl F5) ?_
    refine A4 ?_
    refine C5 ?_
    exact H5 rfl (C3 rfl (by first | exact congrArg AV.bool (by rw [hro]; simp) | exact congrArg AV.bool (by rw [hre, Bool.eq_iff_iff]; simp only [Bool.and_eq_true, decide_eq_true_eq, decide_eq_false_iff_not, A8, Bool.false_eq_true, and_false, false_and, false_iff] at *; omega)))
   intro h59
   have hpw : p w = true := by rw [hp]; simp only [Bool.not_eq_true']; rw [hfu]; simpa using h59
   refine C7 (A2 ?_)
   refine A5 rfl ?_
   refine A1 rfl (B1 0 rfl J0 rfl E8 (A0 rfl) rfl) ?_
   refine A1 rfl (B0 0 rfl (A0 rfl) rfl G5 rfl) ?_
   refine A1 rfl (L0 rfl E3 E8 Tryz.zeroValue9 rfl rfl rfl rfl (D9 (A0 rfl) (P2 _) H7) rfl rfl) ?_
   refine M0 (by' := 16) 1 rfl rfl rfl rfl E3 Tryz.type9 rfl rfl rfl rfl rfl rfl (A0 rfl) (A0 rfl) rfl (by first | omega | (simp only [D3, A9, szR] at *; omega)) ?_
   intro v64_2
   refine B5 rfl ?_
   refine A4 (A2 ?_)
   refine A1 rfl (G8 rfl (A0 rfl) B6 (by first | omega | (simp only [D3, A9, szR] at *; omega))) ?_
   refine A5 rfl ?_
   refine A4 ?_
   refine W0 r v2 k2 (r + 1) (v64_2) (k2 ++ [w.Key]) ?_ ?_ (Le.trans (H4 [0, 0] rfl) (L7 1 (by (rw [List.map_append]; rfl)) ⟨rfl, rfl, rfl, rfl, rfl, rfl, rfl, rfl, rfl, rfl, rfl, rfl, rfl, rfl, trivial⟩))
   ·exact ⟨by omega, by rw [hinv.2.1]; unfold wKeys; rw [List.take_add_one, hw, List.map_append, List.append_assoc]; rfl, by rw [hinv.2.2, drop_some hw, List.all_cons, hpw]; rfl⟩
   omega
  intro h38
  have k38 := of_decide_eq_false h38; try simp only [A8] at k38
  have hge2 : h.Writes.length ≤ r := by omega
  have hk2 : k2 = k1 ++ wKeys h.Writes := by rw [hinv.2.1, List.take_of_length_le hge2]
  have hal : h.Writes.all p = true := by rw [hinv.2.2, List.drop_eq_nil_of_le hge2]; rfl
  refine G6 ?_
  refine A2 ?_
  refine A1 rfl (G8 rfl (A0 rfl) B6 (by first | omega | (simp only [D3, A9, szR] at *; omega))) ?_
  refine A5 rfl ?_
  refine A4 ?_
  refine W0 q v1 k1 (q + 1) (v2) (k2) ?_ ?_ (Le.trans (H4 [1, 0] rfl) (L7 1 (by rfl) ⟨rfl, rfl, rfl, rfl, rfl, rfl, trivial⟩))
  ·exact ⟨by omega, by rw [hk2, hinv1.2.1, Al9 hh0]; simp [wKeys], by rw [hinv1.2.2, drop_some hh0, AB4, List.all_append, hal]; rfl⟩
  omega
 intro h31
 have k31 := of_decide_eq_false h31; try simp only [A8] at k31
 have hge : held.length ≤ q := by omega
 have hk9 : k1 = cKeys s.Cells ++ wKeys (hWs held) := by rw [hinv.2.1, List.take_of_length_le hge]
 have hal9 : (hWs held).all p = true := by rw [hinv.2.2, List.drop_eq_nil_of_le hge]; rfl
 have hln := Am1 s.Cells.length held.length hs1 hh
 rw [List.take_length, List.take_length, ← hk9] at hln
 have hre : room s.Cells (hWs held) = decide ((cmpL (sortS k1)).length ≤ 24) := by (unfold room roomKs keysI; rw [← hp, hal9, ← hk9]; rfl)
 refine G6 ?_
 refine A3 (A2 ?_)
 refine A5 rfl ?_
 refine J7 [0] rfl rfl rfl rfl Tryz.call189 rfl (Al8 _ k1 (by omega)) (A7 (A0 rfl) C6) rfl ?_
 intro x68 ok68
 refine A4 (A3 (A2 ?_))
 refine A5 rfl ?_
 refine A1 rfl (G9 rfl E1 (A0 rfl)) ?_
 refine A1 rfl (U7 rfl (A0 rfl) B6) ?_
 refine A5 rfl ?_
 refine C9 rfl (fun hc => C1 rfl (A0 rfl)) ?_
 refine AB6 rfl rfl (H1 rfl rfl rfl) ?_ ?_
 ·intro gh74
  refine J7 [0] rfl rfl rfl rfl Tryz.call190 rfl (AZ5 _ (sortS k1) (by rw [AL2]; omega)) (A7 (A6 rfl gh74) C6) rfl ?_
  intro x74 ok74
  refine C9 rfl (fun hc => W1 0 rfl E3 (A0 rfl) rfl) ?_
  refine C9 rfl (fun hc => U7 rfl (A6 rfl hc) B6) ?_
  refine A1 rfl (H6 rfl (A0 rfl) (F6 rfl)) ?_
  refine B5 rfl ?_
  refine A4 ?_
  refine C5 ?_
  exact H5 rfl (C3 rfl (by first | exact congrArg AV.bool (by rw [hro]; simp) | exact congrArg AV.bool (by rw [hre, Bool.eq_iff_iff]; simp only [Bool.and_eq_true, decide_eq_true_eq, decide_eq_false_iff_not, A8, Bool.false_eq_true, and_false, false_and, false_iff] at *; omega)))
 intro gh74
 refine AB6 rfl rfl (H1 rfl rfl rfl) (fun hq => by rw [gh74] at hq; cases hq) (fun _ => ?_)
 refine AB6 rfl rfl (H1 rfl rfl rfl) (fun hq => by rw [gh74] at hq; cases hq) (fun _ => ?_)
 refine A1 rfl (H6 rfl (A0 rfl) (At1 (x := AV.bool false) gh74)) ?_
 refine B5 rfl ?_
 refine A4 ?_
 refine C5 ?_
 exact H5 rfl (C3 rfl (by first | exact congrArg AV.bool (by rw [hro]; simp) | exact congrArg AV.bool (by rw [hre, Bool.eq_iff_iff]; simp only [Bool.and_eq_true, decide_eq_true_eq, decide_eq_false_iff_not, A8, Bool.false_eq_true, and_false, false_and, false_iff] at *; omega)))
theorem Ah3 (h k : THeld) (h1 : h.Writes.length ≤ 4611686018427387903) (ha : adj wLess h.Writes = true) (hk : adj wLess k.Writes = true ∧ k.Writes.length ≤ 4611686018427387903) : FSpec Tryz.prog 139 [AV.agg k.cs, AV.eptr h.cs] (AV.bool (clash h k)) := by
 obtain ⟨ka, k1⟩ := hk
 refine E5 Tryz.func139 rfl Tryz.ntmps139 rfl ?_
 refine A3 (A2 ?_)
 refine N8 rfl rfl rfl rfl (A0 rfl) ?_
 intro b2
 refine A1 rfl (B7 rfl F5) ?_
 refine A4 (A3 (A2 ?_))
 refine A1 rfl (K6 rfl (A0 rfl) I6 D4) ?_
 refine A1 rfl (F7 0 rfl (A0 rfl) rfl I6 D4 rfl) ?_
 refine A1 rfl (E4 rfl Tryz.call140 rfl (Aw2 _ _ (by first | assumption | omega) (by first | assumption | omega) (by assumption) (by assumption)) (A7 (A0 rfl) (A7 (A0 rfl) C6))) ?_
 refine B5 rfl ?_
 refine A4 ?_
 refine C5 ?_
 exact H5 rfl (C3 rfl (by first | rfl | (refine congrArg AV.bool ?_; simp_all; done)))
theorem Ah4 (h : THeld) (s : TState) (w : TWrite) (ho : CellsOk s.Cells) (hs : sizeL TCell.size s.Cells ≤ 1048576) : FSpec Tryz.prog 142 [AV.agg w.cs, AV.eptr h.cs, AV.eptr s.cs] (AV.bool (decide (h.Time ≤ lastTime s.Cells w.Key))) := by
 refine E5 Tryz.func142 rfl Tryz.ntmps142 rfl ?_
 refine A3 (A2 ?_)
 refine N8 rfl rfl rfl rfl (A0 rfl) ?_
 intro b3
 refine A1 rfl (B7 rfl F5) ?_
 refine A4 (A3 ?_)
 refine I8 (by kernel_rfl) (by kernel_rfl) rfl ?_
 refine B2 rfl rfl (V1 rfl F1 rfl B3 (A0 rfl) rfl) ?_
 refine B2 rfl rfl (N4 rfl (A0 rfl) B9 rfl) ?_
 refine B2 rfl rfl (V1 rfl C0 rfl N9 (A0 rfl) rfl) ?_
 refine B2 rfl rfl (N4 rfl (A0 rfl) Q1 rfl) ?_
 refine B2 rfl rfl (B1 0 rfl J0 rfl E8 (A0 rfl) rfl) ?_
 refine B2 rfl rfl (B0 0 rfl (A0 rfl) rfl G5 rfl) ?_
 refine B2 rfl rfl (E4 rfl Tryz.call92 rfl (AJ5 _ _ (by first | assumption | exact X6 (by assumption)) (by first | assumption | omega)) (A7 (A0 rfl) (A7 (A0 rfl) C6))) ?_
 refine B2 rfl rfl (U7 rfl (A0 rfl) (A0 rfl)) ?_
 refine B2 rfl rfl (B7 rfl (A0 rfl)) ?_
 refine P1 ?_
 refine C5 ?_
 exact H5 rfl (C3 rfl (by first | rfl | (refine congrArg AV.bool ?_; simp_all; done)))
theorem Am2 (s : TState) (hg : goodCells s.Cells = true) (hs : s.size ≤ 1048576) : FSpec Tryz.prog 91 [AV.agg s.cs] (AV.bool (areHeld s)) := by
 obtain ⟨hs1, hs2, hs3, hs4, hs5⟩ := V8 hs
 have hco := X6 hg
 refine E5 Tryz.func91 rfl Tryz.ntmps91 rfl ?_
 refine A3 (A2 ?_)
 refine N8 rfl rfl rfl rfl (A0 rfl) ?_
 intro b1
 refine A1 rfl (B7 rfl F5) ?_
 refine A4 (A3 (A3 (A2 ?_)))
 refine A1 rfl (B1 2 rfl C0 rfl G2 (A0 rfl) rfl) ?_
 refine A1 rfl (B0 0 rfl (A0 rfl) rfl L3 rfl) ?_
 refine A1 rfl (G9 rfl E1 (A0 rfl)) ?_
 refine A1 rfl (C1 rfl B6) ?_
 refine A4 (C8 ?_)
 refine J1 [(1, _), (6, _), (7, _)] _ (fun (i : Nat) => i ≤ s.Held.length ∧ ∀ j, j < i → heldAt s j = true) (fun (i : Nat) => []) (fun (i : Nat) => [(8, AV.int i)]) (fun (i : Nat) => s.Held.length - i) (0) ?_ (K0 ⟨rfl, rfl, rfl, rfl, trivial⟩) ?_
 ·exact ⟨Nat.zero_le _, fun j hj => by omega⟩
 intro i hinv
 refine A3 (A2 ?_)
 refine A1 rfl (J6 rfl (A0 rfl) (A0 rfl)) ?_
 refine A4 (A3 ?_)
 refine C4 (A0 rfl) ?_ ?_
 ·intro h9
  have k9 := of_decide_eq_true h9; try simp only [A8] at k9
  have hlt : i < s.Held.length := by omega
  obtain ⟨h, hx⟩ := get_some hlt
  obtain ⟨y, hy⟩ := get_some (show i - 1 < s.Held.length by omega)
  obtain ⟨g1, g2, g3, g4, g5⟩ := W9 hs2 hx
  refine C7 (A3 (C8 (A3 (A2 ?_))))
  refine A5 rfl ?_
  refine A1 rfl (I9 rfl E1 D4 (A0 rfl) (A0 rfl) hx (by first | omega | (simp only [D3, A9, szR] at *; omega))) ?_
  refine A1 rfl (K6 rfl (A0 rfl) I6 D4) ?_
  refine F9 rfl rfl rfl rfl Tryz.zeroValue141 rfl ?_
  intro b4
  refine B5 rfl ?_
  refine D6 0 rfl rfl rfl (A0 rfl) (A0 rfl) (E7 _) rfl D4 rfl ?_
  refine A4 (A3 (A3 ?_))
  refine I8 (by kernel_rfl) (by kernel_rfl) rfl ?_
  refine B2 rfl rfl (F7 0 rfl (A0 rfl) rfl I6 D4 rfl) ?_
  refine B2 rfl rfl (E4 rfl Tryz.call137 rfl (rec_spec _) (A7 (A0 rfl) C6)) ?_
  refine B2 rfl rfl (E4 rfl Tryz.call136 rfl (Al5 _ (by first | assumption | omega)) (A7 (A0 rfl) C6)) ?_
  refine B2 rfl rfl (M2 rfl (A0 rfl)) ?_
  refine B2 rfl rfl (C1 rfl (A0 rfl)) ?_
  refine D2 rfl (I2 rfl rfl rfl) (fun hc => B1 1 rfl F1 rfl B3 (A0 rfl) rfl) ?_
  refine D2 rfl (I2 rfl rfl rfl) (fun hc => B0 0 rfl (A6 rfl hc) rfl B9 rfl) ?_
  refine D2 rfl (I2 rfl rfl rfl) (fun hc => B1 0 rfl C0 rfl B3 (A0 rfl) rfl) ?_
  refine D2 rfl (I2 rfl rfl rfl) (fun hc => B0 1 rfl (A6 rfl hc) rfl B9 rfl) ?_
  refine D2 rfl (I2 rfl rfl rfl) (fun hc => O5 rfl (A6 rfl hc) (A6 rfl hc)) ?_
  refine B2 rfl rfl (T5 rfl (A0 rfl) (F6 rfl)) ?_
  refine B2 rfl rfl (C1 rfl (A0 rfl)) ?_
  refine D2 rfl (I2 rfl rfl rfl) (fun hc => C1 rfl (A0 rfl)) ?_
  refine D2 rfl (I2 rfl rfl rfl) (fun hc => O5 rfl (A6 rfl hc) B6) ?_
  refine D2 rfl (I2 rfl rfl rfl) (fun hc => C1 rfl (A6 rfl hc)) ?_
  refine D2 rfl (E0 rfl rfl rfl) (fun hc => B1 0 rfl F1 rfl B3 (A0 rfl) rfl) ?_
  refine D2 rfl (E0 rfl rfl rfl) (fun hc => B0 0 rfl (A6 rfl hc) rfl B9 rfl) ?_
  refine D2 rfl (E0 rfl rfl rfl) (fun hc => B1 2 rfl C0 rfl G2 (A0 rfl) rfl) ?_
  refine D2 rfl (E0 rfl rfl rfl) (fun hc => B0 1 rfl (A6 rfl hc) rfl L3 rfl) ?_
  refine D2 rfl (E0 rfl rfl rfl) (fun hc => C1 rfl (A0 rfl)) ?_
  refine D2 rfl (E0 rfl rfl rfl) (fun hc => Q3 rfl (A6 rfl hc) B6 (by first | omega | ((try simp only [D3, A9, szR] at *); omega) | (have hc2 := hc; simp only [P3, beq_iff_eq, bne_iff_ne, A8, F0] at hc2; omega))) ?_
  refine D2 rfl (E0 rfl rfl rfl) (fun hc => I9 rfl E1 D4 (A6 rfl hc) (A6 rfl hc) hy (by first | omega | ((try simp only [D3, A9, szR] at *); omega) | (have hc2 := hc; simp only [P3, beq_iff_eq, bne_iff_ne, A8, F0] at hc2; omega))) ?_
  refine D2 rfl (E0 rfl rfl rfl) (fun hc => V1 rfl F1 rfl B3 (A6 rfl hc) rfl) ?_
  refine D2 rfl (E0 rfl rfl rfl) (fun hc => N4 rfl (A6 rfl hc) B9 rfl) ?_
  refine D2 rfl (E0 rfl rfl rfl) (fun hc => U7 rfl (A6 rfl hc) (A6 rfl hc)) ?_
  refine D2 rfl (I2 rfl rfl rfl) (fun hc => H6 rfl (A6 rfl hc) (P7 rfl hc)) ?_
  refine B2 rfl rfl (T5 rfl (A0 rfl) (F6 rfl)) ?_
  refine P1 ?_
  refine C4 (A0 rfl) ?_ ?_
  ·intro h39
   have hfin : areHeld s = false := by (unfold areHeld; rw [Y9 hlt (by rw [w7 hx hy, h39]; rfl)]; rfl)
   refine A3 (A2 ?_)
   refine A1 rfl (B7 rfl F5) ?_
   refine A4 ?_
   refine C5 ?_
   exact H5 rfl (C3 rfl (by first | exact congrArg AV.bool hfin.symm | exact congrArg AV.bool (by unfold areHeld; rw [hall]; rfl)))
  intro h39
  have hgr : goodRec (hRec h) = true := by (simp only [Bool.or_eq_false_iff, Bool.not_eq_false'] at h39; exact h39.1.1)
  have hwa := AT1 hgr
  have hwl : h.Writes.length ≤ 4611686018427387903 := by omega
  have hpre : ∀ g ∈ s.Held.take i, adj wLess g.Writes = true ∧ g.Writes.length ≤ 4611686018427387903 := fun g hm => by (obtain ⟨j, hj⟩ := List.getElem?_of_mem hm; have hjl := (List.getElem?_eq_some_iff.1 hj).1; rw [F0] at hjl; rw [List.getElem?_take_of_lt (by omega)] at hj; have k1 := W9 hs2 hj; exact ⟨AT1 (AQ6 hj (hinv.2 j (by omega))).1, by omega⟩)
  refine C7 (A3 (A3 (A2 ?_)))
  refine A1 rfl (B1 2 rfl C0 rfl G2 (A0 rfl) rfl) ?_
  refine A1 rfl (B0 1 rfl (A0 rfl) rfl L3 rfl) ?_
  refine A5 rfl ?_
  refine A1 rfl (AC6 rfl E1 D4 (A0 rfl) (A0 rfl) (by first | omega | (simp only [D3, A9, szR] at *; omega)) (by first | omega | (simp only [D3, A9, szR] at *; omega))) ?_
  refine A1 rfl (w_clo rfl rfl (A7 (A0 rfl) C6)) ?_
  refine A1 rfl (g8 rfl Tryz.call138 rfl (AF5 (s.Held.take i) (fun g => adj wLess g.Writes = true ∧ g.Writes.length ≤ 4611686018427387903) (fun g => clash h g) hpre) (D0 _) (Q4 (evb (A0 rfl)) (Q4 (AG3 (evb_clo1 0 (A0 rfl) rfl) (AR8 Tryz.call139 (fun g hg => Ah3 _ g (by first | assumption | omega) (by assumption) hg))) X3))) ?_
  refine A4 ?_
  refine C4 (A0 rfl) ?_ ?_
  ·intro h45
   have hfin : areHeld s = false := by (unfold areHeld; rw [Y9 hlt (by rw [w7 hx hy, h45]; simp)]; rfl)
   refine A3 (A2 ?_)
   refine A1 rfl (B7 rfl F5) ?_
   refine A4 ?_
   refine C5 ?_
   exact H5 rfl (C3 rfl (by first | exact congrArg AV.bool hfin.symm | exact congrArg AV.bool (by unfold areHeld; rw [hall]; rfl)))
  intro h45
  refine C7 (A3 (A2 ?_))
  refine A1 rfl (B1 4 rfl F1 rfl K2 (A0 rfl) rfl) ?_
  refine A1 rfl (B0 0 rfl (A0 rfl) rfl L9 rfl) ?_
  refine A1 rfl (w_clo rfl rfl (A7 (A0 rfl) (A7 (A0 rfl) C6))) ?_
  refine A1 rfl (g8 rfl Tryz.call141 rfl (d5 _ _ _ (by first | (intros; trivial) | assumption | (intros; first | trivial | (simp_all; done)))) (D0 _) (Q4 (evb (A0 rfl)) (Q4 (AG3 (Aj8 0 1 (A0 rfl) rfl rfl) (AR8 Tryz.call142 (fun w (_ : True) => Ah4 _ _ w (by assumption) (by first | assumption | omega)))) X3))) ?_
  refine A4 ?_
  refine C4 (A0 rfl) ?_ ?_
  ·intro h49
   have hfin : areHeld s = false := by (unfold areHeld; rw [Y9 hlt (by rw [w7 hx hy, h49]; simp)]; rfl)
   refine A3 (A2 ?_)
   refine A1 rfl (B7 rfl F5) ?_
   refine A4 ?_
   refine C5 ?_
   exact H5 rfl (C3 rfl (by first | exact congrArg AV.bool hfin.symm | exact congrArg AV.bool (by unfold areHeld; rw [hall]; rfl)))
  intro h49
  refine C7 (A2 ?_)
  refine A1 rfl (G8 rfl (A0 rfl) B6 (by first | omega | (simp only [D3, A9, szR] at *; omega))) ?_
  refine A5 rfl ?_
  refine A4 ?_
  refine L4 i (i + 1) ?_ ?_ (U3 1 ⟨rfl, rfl, rfl, rfl, trivial⟩)
  ·exact ⟨by omega, fun j hj => if hji : j < i then hinv.2 j hji else (by have e : j = i := (by omega); subst e; rw [w7 hx hy, h39, h45, h49]; rfl)⟩
  omega
 intro h9
 have k9 := of_decide_eq_false h9; try simp only [A8] at k9
 have hge : s.Held.length ≤ i := by omega
 have hall : allB s.Held.length (heldAt s) = true := k0.2 fun j hj => hinv.2 j (by omega)
 refine G6 ?_
 refine A3 (A2 ?_)
 refine A1 rfl (F7 0 rfl (A0 rfl) rfl E2 C2 rfl) ?_
 refine A1 rfl (B1 2 rfl C0 rfl G2 (A0 rfl) rfl) ?_
 refine A1 rfl (B0 0 rfl (A0 rfl) rfl L3 rfl) ?_
 refine A1 rfl (E4 rfl Tryz.call143 rfl (BA4 _ _ (by assumption) (by first | assumption | omega) (by first | assumption | omega)) (A7 (A0 rfl) (A7 (A0 rfl) C6))) ?_
 refine B5 rfl ?_
 refine A4 ?_
 refine C5 ?_
 exact H5 rfl (C3 rfl (by first | exact congrArg AV.bool hfin.symm | exact congrArg AV.bool (by unfold areHeld; rw [hall]; rfl)))
theorem AZ7 (h : THeld) (n : Int) : FSpec Tryz.prog 145 [AV.agg h.cs, AV.int n] (AV.int (hCmp n h)) := by
 refine E5 Tryz.func145 rfl Tryz.ntmps145 rfl ?_
 refine A3 (A2 ?_)
 refine N8 rfl rfl rfl rfl (A0 rfl) ?_
 intro b2
 refine A1 rfl (B7 rfl B6) ?_
 refine A4 (A3 (A2 ?_))
 refine A1 rfl (B1 0 rfl F1 rfl B3 (A0 rfl) rfl) ?_
 refine A1 rfl (B0 0 rfl (A0 rfl) rfl B9 rfl) ?_
 refine A5 rfl ?_
 refine A1 rfl (E4 rfl Tryz.call104 rfl (AE6 _ _) (A7 (A0 rfl) (A7 (A0 rfl) C6))) ?_
 refine B5 rfl ?_
 refine A4 ?_
 refine C5 ?_
 exact H5 rfl (C3 rfl (by first | rfl | (refine congrArg AV.bool ?_; simp_all; done)))
theorem Am3 (f : Int) (c t : List (List AV)) (l : List THeld) (n : Int) (hs : l.length ≤ 1048576) : FSpec Tryz.prog 94 [AV.agg [AV.int f, AV.list 2 c, AV.list 5 (l.map THeld.cs), AV.list 3 t], AV.int n] (AV.tup [AV.int (hPos l n), AV.bool (hHas l n)]) := by
 refine E5 Tryz.func94 rfl Tryz.ntmps94 rfl ?_
 refine A3 (A2 ?_)
 refine N8 rfl rfl rfl rfl (A0 rfl) ?_
 intro b2
 refine A1 rfl (B7 rfl B6) ?_
 refine A1 rfl (B7 rfl F5) ?_
 refine A4 (A3 (A2 ?_))
 refine A1 rfl (B1 2 rfl C0 rfl G2 (A0 rfl) rfl) ?_
 refine A1 rfl (B0 0 rfl (A0 rfl) rfl L3 rfl) ?_
 refine A5 rfl ?_
 refine A1 rfl (E4 rfl Tryz.call144 rfl (AF7 _ _ _ (by first | (intros; trivial) | assumption | (intros; first | trivial | (simp_all; done))) _ (by omega)) (A7 (A0 rfl) (A7 (A0 rfl) (A7 (AY2 Tryz.call145 (fun h n (_ : True) => AZ7 h n)) C6)))) ?_
 refine A1 rfl (H8 rfl (A0 rfl) rfl) ?_
 refine A1 rfl (H8 rfl (A0 rfl) rfl) ?_
 refine B5 rfl ?_
 refine B5 rfl ?_
 refine A4 ?_
 refine C5 ?_
 exact Z7 rfl (by decide) (F4 (C3 rfl (by first | rfl | (refine congrArg AV.bool ?_; simp_all; done))) (F4 (C3 rfl (by first | rfl | (refine congrArg AV.bool ?_; simp_all; done))) M5))
theorem Ah5 (s : TState) (n : Int) (hs : s.Held.length ≤ 1048576) : FSpec Tryz.prog 94 [AV.agg s.cs, AV.int n] (AV.tup [AV.int (hPos s.Held n), AV.bool (hHas s.Held n)]) := Am3 _ _ _ s.Held n hs
theorem AZ8 (s : TState) (hs : s.size ≤ 1048576) : FSpec Tryz.prog 50 [AV.agg s.cs] (AV.bool (goodState s)) := by
 obtain ⟨hs1, hs2, hs3, hs4, hs5⟩ := V8 hs
 refine E5 Tryz.func50 rfl Tryz.ntmps50 rfl ?_
 refine A3 (A2 ?_)
 refine N8 rfl rfl rfl rfl (A0 rfl) ?_
 intro b1
 refine A1 rfl (B7 rfl F5) ?_
 refine A4 (A3 (A3 (A2 ?_)))
 refine A1 rfl (B1 0 rfl C0 rfl B3 (A0 rfl) rfl) ?_
 refine A1 rfl (B0 0 rfl (A0 rfl) rfl B9 rfl) ?_
 refine A1 rfl (E4 rfl Tryz.call52 rfl (AP9 _) (A7 (A0 rfl) C6)) ?_
 refine A1 rfl (M2 rfl (A0 rfl)) ?_
 refine A5 rfl ?_
 refine J5 rfl (fun hc => B1 1 rfl C0 rfl N9 (A0 rfl) rfl) ?_
 refine J5 rfl (fun hc => B0 0 rfl (A6 rfl hc) rfl Q1 rfl) ?_
 refine J5 rfl (fun hc => E4 rfl Tryz.call77 rfl (AZ3 _ (by first | assumption | omega)) (A7 (A6 rfl hc) C6)) ?_
 refine J5 rfl (fun hc => M2 rfl (A6 rfl hc)) ?_
 refine A1 rfl (T5 rfl (A0 rfl) (F6 rfl)) ?_
 refine A5 rfl ?_
 refine J5 rfl (fun hc => F7 0 rfl (A0 rfl) rfl E2 C2 rfl) ?_
 refine J5 rfl (fun hc => E4 rfl Tryz.call91 rfl (Am2 s (by have h9 := hc; simp at h9; exact h9.2) hs) (A7 (A6 rfl hc) C6)) ?_
 refine J5 rfl (fun hc => M2 rfl (A6 rfl hc)) ?_
 refine A1 rfl (T5 rfl (A0 rfl) (F6 rfl)) ?_
 refine A5 rfl ?_
 refine J5 rfl (fun hc => B1 3 rfl C0 rfl N2 (A0 rfl) rfl) ?_
 refine J5 rfl (fun hc => B0 0 rfl (A6 rfl hc) rfl T7 rfl) ?_
 refine J5 rfl (fun hc => G9 rfl I0 (A6 rfl hc)) ?_
 refine J5 rfl (fun hc => O5 rfl (A6 rfl hc) B6) ?_
 refine A1 rfl (T5 rfl (A0 rfl) (F6 rfl)) ?_
 refine A4 ?_
 refine C4 (A0 rfl) ?_ ?_
 ·intro h30
  have hfin : goodState s = false := by (unfold goodState; simp only [Bool.or_eq_true, Bool.not_eq_true', decide_eq_true_eq, A8] at h30; rcases h30 with ((h | h) | h) | h; (rw [h]; rfl); (rw [h]; simp); (rw [h]; simp); (rw [decide_eq_false (show ¬ s.Told.length ≤ 60 by omega)]; simp))
  refine A3 (A2 ?_)
  refine A1 rfl (B7 rfl F5) ?_
  refine A4 ?_
  refine C5 ?_
  exact H5 rfl (C3 rfl (by exact congrArg AV.bool hfin.symm))
 intro h30
 simp only [Bool.or_eq_false_iff, Bool.not_eq_false', decide_eq_false_iff_not, A8] at h30
 obtain ⟨⟨⟨q1, q2⟩, q3⟩, q4⟩ := h30
 have hco := X6 q2
 have hsrt := Am0 q3
 have hgs : goodState s = ((s.Cells.all fun c => decide (lastTime s.Cells c.Key ≤ s.Floor)) && allB s.Told.length (toldAt s)) := by (unfold goodState; rw [q1, q2, q3, decide_eq_true (show s.Told.length ≤ 60 by omega)]; simp)
 refine C7 (A3 (A3 (A2 ?_)))
 refine A1 rfl (B1 1 rfl C0 rfl N9 (A0 rfl) rfl) ?_
 refine A1 rfl (B0 0 rfl (A0 rfl) rfl Q1 rfl) ?_
 refine A1 rfl (G9 rfl E9 (A0 rfl)) ?_
 refine A1 rfl (C1 rfl B6) ?_
 refine A4 (C8 ?_)
 refine J1 [(1, _), (32, _), (33, _)] _ (fun (i : Nat) => i ≤ s.Cells.length ∧ (s.Cells.all fun c => decide (lastTime s.Cells c.Key ≤ s.Floor)) = ((s.Cells.drop i).all fun c => decide (lastTime s.Cells c.Key ≤ s.Floor))) (fun (i : Nat) => []) (fun (i : Nat) => [(34, AV.int i)]) (fun (i : Nat) => s.Cells.length - i) (0) ?_ (K0 ⟨rfl, rfl, rfl, rfl, trivial⟩) ?_
 ·exact ⟨Nat.zero_le _, rfl⟩
 intro i hinv
 refine A3 (A2 ?_)
 refine A1 rfl (J6 rfl (A0 rfl) (A0 rfl)) ?_
 refine A4 (A3 ?_)
 refine C4 (A0 rfl) ?_ ?_
 ·intro h35
  have k35 := of_decide_eq_true h35; try simp only [A8] at k35
  have hlt : i < s.Cells.length := by omega
  obtain ⟨c, hx⟩ := get_some hlt
  refine C7 (A3 (C8 (A3 (A2 ?_))))
  refine A1 rfl (I9 rfl E9 G0 (A0 rfl) (A0 rfl) hx (by first | omega | (simp only [D3, A9, szR] at *; omega))) ?_
  refine A1 rfl (K6 rfl (A0 rfl) U6 G0) ?_
  refine F9 rfl rfl rfl rfl Tryz.zeroValue125 rfl ?_
  intro b4
  refine D6 0 rfl rfl rfl (A0 rfl) (A0 rfl) (E7 _) rfl G0 rfl ?_
  refine A4 (A3 ?_)
  refine I8 (by kernel_rfl) (by kernel_rfl) rfl ?_
  refine B2 rfl rfl (B1 1 rfl C0 rfl N9 (A0 rfl) rfl) ?_
  refine B2 rfl rfl (B0 1 rfl (A0 rfl) rfl Q1 rfl) ?_
  refine B2 rfl rfl (B1 0 rfl G7 rfl E8 (A0 rfl) rfl) ?_
  refine B2 rfl rfl (B0 0 rfl (A0 rfl) rfl G5 rfl) ?_
  refine B2 rfl rfl (E4 rfl Tryz.call92 rfl (AJ5 _ _ (by first | assumption | exact X6 (by assumption)) (by first | assumption | omega)) (A7 (A0 rfl) (A7 (A0 rfl) C6))) ?_
  refine B2 rfl rfl (B1 0 rfl C0 rfl B3 (A0 rfl) rfl) ?_
  refine B2 rfl rfl (B0 1 rfl (A0 rfl) rfl B9 rfl) ?_
  refine B2 rfl rfl (O5 rfl (A0 rfl) (A0 rfl)) ?_
  refine P1 ?_
  refine C4 (A0 rfl) ?_ ?_
  ·intro h45
   have k45 := of_decide_eq_true h45; try simp only [A8] at k45
   have hfin : goodState s = false := by (rw [hgs, hinv.2, drop_some hx, List.all_cons, decide_eq_false (show ¬ lastTime s.Cells c.Key ≤ s.Floor by omega)]; rfl)
   refine A3 (A2 ?_)
   refine A1 rfl (B7 rfl F5) ?_
   refine A4 ?_
   refine C5 ?_
   exact H5 rfl (C3 rfl (by exact congrArg AV.bool hfin.symm))
  intro h45
  have k45 := of_decide_eq_false h45; try simp only [A8] at k45
  refine C7 (A2 ?_)
  refine A1 rfl (G8 rfl (A0 rfl) B6 (by first | omega | (simp only [D3, A9, szR] at *; omega))) ?_
  refine A5 rfl ?_
  refine A4 ?_
  refine L4 i (i + 1) ?_ ?_ (U3 1 ⟨rfl, rfl, rfl, rfl, trivial⟩)
  ·exact ⟨by omega, by rw [hinv.2, drop_some hx, List.all_cons, decide_eq_true (show lastTime s.Cells c.Key ≤ s.Floor by omega)]; rfl⟩
  omega
 intro h35
 have k35 := of_decide_eq_false h35; try simp only [A8] at k35
 have hge : s.Cells.length ≤ i := by omega
 have hgs2 : goodState s = allB s.Told.length (toldAt s) := by (rw [hgs, hinv.2, List.drop_eq_nil_of_le hge]; rfl)
 refine G6 ?_
 refine A3 (A3 (A2 ?_))
 refine A1 rfl (B1 3 rfl C0 rfl N2 (A0 rfl) rfl) ?_
 refine A1 rfl (B0 0 rfl (A0 rfl) rfl T7 rfl) ?_
 refine A1 rfl (G9 rfl I0 (A0 rfl)) ?_
 refine A1 rfl (C1 rfl B6) ?_
 refine A4 (C8 ?_)
 refine J1 [(1, _), (48, _), (49, _)] _ (fun (q : Nat) => q ≤ s.Told.length ∧ ∀ j, j < q → toldAt s j = true) (fun (q : Nat) => []) (fun (q : Nat) => [(50, AV.int q)]) (fun (q : Nat) => s.Told.length - q) (0) ?_ (K0 ⟨rfl, rfl, rfl, rfl, trivial⟩) ?_
 ·exact ⟨Nat.zero_le _, fun j hj => by omega⟩
 intro q hinv
 refine A3 (A2 ?_)
 refine A1 rfl (J6 rfl (A0 rfl) (A0 rfl)) ?_
 refine A4 (A3 ?_)
 refine C4 (A0 rfl) ?_ ?_
 ·intro h51
  have k51 := of_decide_eq_true h51; try simp only [A8] at k51
  have hlt : q < s.Told.length := by omega
  obtain ⟨t, hx⟩ := get_some hlt
  obtain ⟨y, hy⟩ := get_some (show q - 1 < s.Told.length by omega)
  refine C7 (A3 (C8 (A3 (A2 ?_))))
  refine A5 rfl ?_
  refine A1 rfl (I9 rfl I0 K8 (A0 rfl) (A0 rfl) hx (by first | omega | (simp only [D3, A9, szR] at *; omega))) ?_
  refine A1 rfl (K6 rfl (A0 rfl) Z4 K8) ?_
  refine F9 rfl rfl rfl rfl Tryz.zeroValue144 rfl ?_
  intro b6
  refine B5 rfl ?_
  refine D6 0 rfl rfl rfl (A0 rfl) (A0 rfl) (E7 _) rfl K8 rfl ?_
  refine A4 (A3 (A2 ?_))
  refine A1 rfl (B1 1 rfl K9 rfl J8 (A0 rfl) rfl) ?_
  refine A1 rfl (B0 0 rfl (A0 rfl) rfl L8 rfl) ?_
  refine A5 rfl ?_
  refine C9 rfl (fun hc => B1 2 rfl K9 rfl B3 (A0 rfl) rfl) ?_
  refine C9 rfl (fun hc => B0 0 rfl (A6 rfl hc) rfl B9 rfl) ?_
  refine C9 rfl (fun hc => B1 0 rfl C0 rfl B3 (A0 rfl) rfl) ?_
  refine C9 rfl (fun hc => B0 1 rfl (A6 rfl hc) rfl B9 rfl) ?_
  refine C9 rfl (fun hc => E4 rfl Tryz.call82 rfl (a7 _ _ _) (A7 (A6 rfl hc) (A7 B6 (A7 (A6 rfl hc) C6)))) ?_
  refine A1 rfl (H6 rfl (A0 rfl) (F6 rfl)) ?_
  refine A5 rfl ?_
  refine J5 rfl (fun hc => B1 1 rfl K9 rfl J8 (A0 rfl) rfl) ?_
  refine J5 rfl (fun hc => B0 0 rfl (A6 rfl hc) rfl L8 rfl) ?_
  refine J5 rfl (fun hc => M2 rfl (A6 rfl hc)) ?_
  refine J5 rfl (fun hc => C1 rfl (A6 rfl hc)) ?_
  refine H3 rfl rfl (E0 rfl rfl rfl) (fun hc => B1 2 rfl K9 rfl B3 (A0 rfl) rfl) ?_
  refine H3 rfl rfl (E0 rfl rfl rfl) (fun hc => B0 0 rfl (A6 rfl hc) rfl B9 rfl) ?_
  refine H3 rfl rfl (E0 rfl rfl rfl) (fun hc => P4 rfl (A6 rfl hc) B6) ?_
  refine J5 rfl (fun hc => H6 rfl (A6 rfl hc) (P7 rfl hc)) ?_
  refine A1 rfl (T5 rfl (A0 rfl) (F6 rfl)) ?_
  refine B5 rfl ?_
  refine A4 (A3 (A3 ?_))
  refine I8 (by kernel_rfl) (by kernel_rfl) rfl ?_
  refine B2 rfl rfl (B1 0 rfl K9 rfl B3 (A0 rfl) rfl) ?_
  refine B2 rfl rfl (B0 0 rfl (A0 rfl) rfl B9 rfl) ?_
  refine B2 rfl rfl (E4 rfl Tryz.call93 rfl (u3 _) (A7 (A0 rfl) C6)) ?_
  refine B2 rfl rfl (M2 rfl (A0 rfl)) ?_
  refine B2 rfl rfl (C1 rfl (A0 rfl)) ?_
  refine D2 rfl (I2 rfl rfl rfl) (fun hc => C1 rfl (A0 rfl)) ?_
  refine D2 rfl (I2 rfl rfl rfl) (fun hc => M2 rfl (A6 rfl hc)) ?_
  refine B2 rfl rfl (T5 rfl (A0 rfl) (F6 rfl)) ?_
  refine B2 rfl rfl (C1 rfl (A0 rfl)) ?_
  refine D2 rfl (I2 rfl rfl rfl) (fun hc => C1 rfl (A0 rfl)) ?_
  refine D2 rfl (I2 rfl rfl rfl) (fun hc => O5 rfl (A6 rfl hc) B6) ?_
  refine D2 rfl (I2 rfl rfl rfl) (fun hc => C1 rfl (A6 rfl hc)) ?_
  refine D2 rfl (E0 rfl rfl rfl) (fun hc => B1 0 rfl K9 rfl B3 (A0 rfl) rfl) ?_
  refine D2 rfl (E0 rfl rfl rfl) (fun hc => B0 0 rfl (A6 rfl hc) rfl B9 rfl) ?_
  refine D2 rfl (E0 rfl rfl rfl) (fun hc => B1 3 rfl C0 rfl N2 (A0 rfl) rfl) ?_
  refine D2 rfl (E0 rfl rfl rfl) (fun hc => B0 1 rfl (A6 rfl hc) rfl T7 rfl) ?_
  refine D2 rfl (E0 rfl rfl rfl) (fun hc => C1 rfl (A0 rfl)) ?_
  refine D2 rfl (E0 rfl rfl rfl) (fun hc => Q3 rfl (A6 rfl hc) B6 (by first | omega | ((try simp only [D3, A9, szR] at *); omega) | (have hc2 := hc; simp only [P3, beq_iff_eq, bne_iff_ne, A8, F0] at hc2; omega))) ?_
  refine D2 rfl (E0 rfl rfl rfl) (fun hc => I9 rfl I0 K8 (A6 rfl hc) (A6 rfl hc) hy (by first | omega | ((try simp only [D3, A9, szR] at *); omega) | (have hc2 := hc; simp only [P3, beq_iff_eq, bne_iff_ne, A8, F0] at hc2; omega))) ?_
  refine D2 rfl (E0 rfl rfl rfl) (fun hc => V1 rfl K9 rfl B3 (A6 rfl hc) rfl) ?_
  refine D2 rfl (E0 rfl rfl rfl) (fun hc => N4 rfl (A6 rfl hc) B9 rfl) ?_
  refine D2 rfl (E0 rfl rfl rfl) (fun hc => U7 rfl (A6 rfl hc) (A6 rfl hc)) ?_
  refine D2 rfl (I2 rfl rfl rfl) (fun hc => H6 rfl (A6 rfl hc) (P7 rfl hc)) ?_
  refine B2 rfl rfl (T5 rfl (A0 rfl) (F6 rfl)) ?_
  refine P1 ?_
  refine C4 (A0 rfl) ?_ ?_
  ·intro h97
   have hfin : goodState s = false := by (rw [hgs2]; exact Y9 hlt (by rw [AD4 hx hy, h97]; rfl))
   refine A3 (A2 ?_)
   refine A1 rfl (B7 rfl F5) ?_
   refine A4 ?_
   refine C5 ?_
   exact H5 rfl (C3 rfl (by exact congrArg AV.bool hfin.symm))
  intro h97
  refine C7 (A3 (A2 ?_))
  refine A1 rfl (F7 1 rfl (A0 rfl) rfl E2 C2 rfl) ?_
  refine A1 rfl (B1 0 rfl K9 rfl B3 (A0 rfl) rfl) ?_
  refine A1 rfl (B0 0 rfl (A0 rfl) rfl B9 rfl) ?_
  refine A1 rfl (E4 rfl Tryz.call94 rfl (Ah5 _ _ (by first | assumption | omega)) (A7 (A0 rfl) (A7 (A0 rfl) C6))) ?_
  refine A5 rfl ?_
  refine A1 rfl (H8 rfl (A0 rfl) rfl) ?_
  refine A1 rfl (H8 rfl (A0 rfl) rfl) ?_
  refine B5 rfl ?_
  refine B5 rfl ?_
  refine A4 (A3 (A2 ?_))
  refine A5 rfl ?_
  refine A4 ?_
  refine C4 (A0 rfl) ?_ ?_
  ·intro h105
   have hfin : goodState s = false := by (rw [hgs2]; exact Y9 hlt (by rw [AD4 hx hy, ← At5 hsrt, h105]; simp))
   refine A3 (A2 ?_)
   refine A1 rfl (B7 rfl F5) ?_
   refine A4 ?_
   refine C5 ?_
   exact H5 rfl (C3 rfl (by exact congrArg AV.bool hfin.symm))
  intro h105
  refine C7 (A2 ?_)
  refine A1 rfl (G8 rfl (A0 rfl) B6 (by first | omega | (simp only [D3, A9, szR] at *; omega))) ?_
  refine A5 rfl ?_
  refine A4 ?_
  refine L4 q (q + 1) ?_ ?_ (U3 1 ⟨rfl, rfl, rfl, rfl, trivial⟩)
  ·exact ⟨by omega, fun j hj => if hji : j < q then hinv.2 j hji else (by have e : j = q := (by omega); subst e; rw [AD4 hx hy, h97, ← At5 hsrt, h105]; rfl)⟩
  omega
 intro h51
 have k51 := of_decide_eq_false h51; try simp only [A8] at k51
 have hge : s.Told.length ≤ q := by omega
 have hfin : goodState s = true := by (rw [hgs2]; exact k0.2 fun j hj => hinv.2 j (by omega))
 refine G6 ?_
 refine A3 (A2 ?_)
 refine A1 rfl (B7 rfl F5) ?_
 refine A4 ?_
 refine C5 ?_
 exact H5 rfl (C3 rfl (by exact congrArg AV.bool hfin.symm))
end Go.Proofs.YtkegepoihkhihaaGreat

namespace Go.Proofs.YtkegepoihkhihaaGreat
open Go Go.AV Go.M
attribute [local irreducible] OpW OpA OpS AWP FSpec ESpec GSpec OpE RetOk RetOkG RvDen Le Ev GuardIs
def TRec.ow (c : TRec) (x : Value × Value) : List Own := [.arr x.1 9 1 (c.Reads.map (fun x => [AV.str x])), .arr x.2 101 3 (c.Writes.map TWrite.cs)]
theorem TRec.lc (c : TRec) (x : Value × Value) : LendC (TRec.ow c x) (TRec.ocs c x) c.cs := (H2 M4 (H2 M4 (H2 M4 (H2 M4 (H2 (N1 (G4 (i := 0) rfl) J4) (H2 (N1 (G4 (i := 1) rfl) J4) (H2 M4 V4)))))))
def TPlaces.ow (c : TPlaces) (x : Value × Value) : List Own := [.arr x.1 9 1 (c.Cuts.map (fun x => [AV.str x])), .arr x.2 3 1 (c.Groups.map (fun x => [AV.int x]))]
theorem TPlaces.lc (c : TPlaces) (x : Value × Value) : LendC (TPlaces.ow c x) (TPlaces.ocs c x) c.cs := (H2 M4 (H2 (N1 (G4 (i := 0) rfl) J4) (H2 (N1 (G4 (i := 1) rfl) J4) V4)))
def TMove.ow (c : TMove) (x : Value × Value) : List Own := [.arr x.1 101 3 (c.From.map TWrite.cs), .arr x.2 101 3 (c.To.map TWrite.cs)]
theorem TMove.lc (c : TMove) (x : Value × Value) : LendC (TMove.ow c x) (TMove.ocs c x) c.cs := (H2 M4 (H2 M4 (H2 M4 (H2 (N1 (G4 (i := 0) rfl) J4) (H2 (N1 (G4 (i := 1) rfl) J4) (H2 M4 (H2 M4 V4)))))))
end Go.Proofs.YtkegepoihkhihaaGreat

namespace Go.AV
section
variable {T X : Type} {cs : T → List AV} {ocs : T → X → List AV} {ow : T → X → List Own}
theorem BA5 {l : List T} {xs : List X} {i : Nat} {p : T} {x : X} (hi : i ≤ l.length) (h : xs.length = l.length) : (nrows ocs l xs).take i ++ ocs p x :: (nrows ocs l xs).drop i = nrows ocs (l.take i ++ p :: l.drop i) (xs.take i ++ x :: xs.drop i) := by
  unfold nrows
  rw [List.zipWith_append (by rw [F0, F0]; omega), List.zipWith_cons_cons, List.take_zipWith, List.drop_zipWith]
theorem nin_ins {l : List T} {xs : List X} {i : Nat} {p : T} {x : X} (hi : i ≤ l.length) (h : xs.length = l.length) : (ow p x ++ nin ow l xs).Perm (nin ow (l.take i ++ p :: l.drop i) (xs.take i ++ x :: xs.drop i)) := by
  have e : nin ow l xs = nin ow (l.take i) (xs.take i) ++ nin ow (l.drop i) (xs.drop i) := by
    unfold nin
    rw [← List.flatten_append, ← List.zipWith_append (by rw [F0, F0]; omega), List.take_append_drop, List.take_append_drop]
  have e2 : nin ow (l.take i ++ p :: l.drop i) (xs.take i ++ x :: xs.drop i) = nin ow (l.take i) (xs.take i) ++ (ow p x ++ nin ow (l.drop i) (xs.drop i)) := by
    unfold nin
    rw [List.zipWith_append (by rw [F0, F0]; omega), List.zipWith_cons_cons, List.flatten_append, List.flatten_cons]
  rw [e, e2, ← List.append_assoc, ← List.append_assoc]
  exact List.Perm.append_right _ List.perm_append_comm
theorem Am4 {X : Type} {xs : List X} {i : Nat} {x : X} (hi : i ≤ xs.length) : (xs.take i ++ x :: xs.drop i).length = xs.length + 1 := by
  rw [I5, J3, F0, List.length_drop]; omega
end
end Go.AV
namespace Go.Proofs.YtkegepoihkhihaaGreat
open Go Go.AV Go.M
attribute [local irreducible] OpW OpA OpS AWP FSpec ESpec GSpec OpE RetOk RetOkG RvDen Le Ev GuardIs SrcIs
def TCell.ow (c : TCell) (x : Value) : List Own := [.arr x 127 3 (c.Vers.map TVer.cs)]
theorem TCell.lcM {own : List Own} (c : TCell) (x : Value) (h : ∀ o ∈ TCell.ow c x, o ∈ own) : LendC own (TCell.ocs c x) c.cs := H2 M4 (H2 (N1 (h _ (G4 (i := 0) rfl)) J4) V4)
theorem Ae6 (l : List TCell) (hs : sizeL TCell.size l ≤ 4194304) : GSpec Tryz.prog 224 [AV.list 2 (l.map TCell.cs)] [] (fun x : Value × List Value => x.2.length = l.length) (fun x => .arr x.1 125 2 (nrows TCell.ocs l x.2) :: nin TCell.ow l x.2) (fun x => AV.is x.1) := by
 have hl : l.length ≤ 4194304 := Nat.le_trans O3 hs
 refine J9 Tryz.func224 rfl Tryz.ntmps224 rfl ?_
 refine A3 (A2 ?_)
 refine A1 rfl (B7 rfl O7) ?_
 refine A4 (A3 (A2 ?_))
 refine j5 125 2 rfl rfl rfl rfl O7 ?_
 intro v3
 refine A4 (A3 (A3 (A2 ?_)))
 refine A5 rfl ?_
 refine A1 rfl (G9 rfl E9 (A0 rfl)) ?_
 refine A1 rfl (C1 rfl B6) ?_
 refine A4 (C8 ?_)
 refine X0 [(2, _), (6, _), (7, _)] [] (fun (i : Nat) (v : Value) (xs : List Value) => i ≤ l.length ∧ xs.length = i) (fun (i : Nat) (v : Value) (xs : List Value) => [.arr v 125 2 (nrows TCell.ocs (l.take i) xs)] ++ (nin TCell.ow (l.take i) xs)) (fun (i : Nat) (v : Value) (xs : List Value) => [(3, AV.is v), (8, AV.int i)]) (fun (i : Nat) (v : Value) (xs : List Value) => l.length - i) (0) (v3) ([]) ?_ (P8 (by rfl) ⟨rfl, rfl, rfl, rfl, rfl, trivial⟩) ?_
 ·exact ⟨Nat.zero_le _, rfl⟩
 intro i v xs hinv
 refine O1 (List.append_nil _) ?_
 refine A3 (A2 ?_)
 refine A1 rfl (J6 rfl (A0 rfl) (A0 rfl)) ?_
 refine A4 (A3 ?_)
 refine C4 (A0 rfl) ?_ ?_
 ·intro h9
  have k9 := of_decide_eq_true h9; try simp only [A8] at k9
  have hlt : i < l.length := by omega
  obtain ⟨x, hx⟩ := get_some hlt
  have hsx := n7 (Nat.le_trans (Z2 hx) hs)
  refine C7 (A3 (C8 (A3 (A2 ?_))))
  refine A1 rfl (I9 rfl E9 G0 (A0 rfl) (A0 rfl) hx (by first | omega | (simp only [D3, A9, szR] at *; omega))) ?_
  refine A1 rfl (K6 rfl (A0 rfl) U6 G0) ?_
  refine F9 rfl rfl rfl rfl Tryz.zeroValue125 rfl ?_
  intro b5
  refine D6 0 rfl rfl rfl (A0 rfl) (A0 rfl) (E7 _) rfl G0 rfl ?_
  refine A4 ?_
  refine U4 _ [(0, false), (1, false), (2, false), (4, false), (5, false), (3, true), (6, true), (7, false), (8, false), (9, true)] (by kernel_rfl) (by kernel_rfl) rfl (W8 1) ?_
  refine G1 rfl rfl rfl (fun ext => C1 rfl (A0 rfl)) ?_
  refine G1 rfl rfl rfl (fun ext => B1 0 rfl G7 rfl E8 (A0 rfl) rfl) ?_
  refine G1 rfl rfl rfl (fun ext => B0 0 rfl (A0 rfl) rfl G5 rfl) ?_
  refine G1 rfl rfl rfl (fun ext => B1 1 rfl G7 rfl P0 (A0 rfl) rfl) ?_
  refine G1 rfl rfl rfl (fun ext => B0 0 rfl (A0 rfl) rfl R8 rfl) ?_
  refine U2 rfl rfl rfl (AA7 2 <| Y1 rfl K1 N0) (fun a _ => (by first | exact F2 rfl | exact F2 (List.append_assoc _ _ _) | exact I7)) ?_
  intro v15 _
  refine U2 rfl rfl rfl (g9 2 (fun _ => rfl) (O6 (by' := 32) 2 rfl K1 Tryz.type127 rfl rfl rfl rfl rfl rfl (A0 rfl) (A0 rfl) rfl (by first | omega | (simp only [D3, A9, szR] at *; omega)))) (fun a _ => (by first | exact F2 rfl | exact F2 (List.append_assoc _ _ _) | exact I7)) ?_
  intro v18_1 hone_v18_1
  have one_v18_1 := hone_v18_1.2
  refine G1 rfl rfl rfl (fun ext => O0 (places := #[(0, 1), (1, 1)]) rfl G7 Tryz.zeroValue125 (fun w => by kernel_rfl) rfl (D9 (A0 rfl) (P2 _) (D9 (A0 rfl) (V5 one_v18_1) H7)) rfl) ?_
  refine G1 rfl rfl rfl (fun ext => L0 rfl E9 G0 Tryz.zeroValue125 rfl rfl rfl rfl (D9 (A0 rfl) (E7 _) H7) rfl rfl) ?_
  refine U2 rfl rfl rfl (O6 (by' := 40) 1 rfl E9 Tryz.type125 rfl rfl rfl rfl rfl rfl (A0 rfl) (A0 rfl) rfl (by rw [AL4 (by rw [hinv.2, F0]; omega), A9, F0]; omega)) (fun a _ => (by first | exact F2 rfl | exact F2 (List.append_assoc _ _ _) | exact I7)) ?_
  intro v21_2 _
  refine j7 ?_
  refine B5 rfl ?_
  refine A4 ?_
  refine AWP.le (H4 [0, 0, 0] rfl) ?_
  refine AWP.le (AA6 2 (t := nin TCell.ow (l.take (i + 1)) (xs ++ [v18_1])) (nin_step (ow := TCell.ow) (x := v18_1) hx hinv.2)) ?_
  refine A2 ?_
  refine A1 rfl (G8 rfl (A0 rfl) B6 (by first | omega | (simp only [D3, A9, szR] at *; omega))) ?_
  refine A5 rfl ?_
  refine A4 ?_
  refine W0 i v xs (i + 1) (v21_2) (xs ++ [v18_1]) ?_ ?_ (L7 1 (Eq.trans (by exact congrArg (fun z => Own.arr _ _ _ z :: _) (Av3 hx hinv.2)) (List.append_nil _).symm) ⟨rfl, rfl, rfl, rfl, rfl, trivial⟩)
  ·exact ⟨by omega, by rw [I5, hinv.2]; rfl⟩
  omega
 intro h9
 have k9 := of_decide_eq_false h9; try simp only [A8] at k9
 have hge : i = l.length := by omega
 have hxs := hinv.2.trans hge
 rw [show l.take i = l from List.take_of_length_le (by omega)]
 refine G6 ?_
 refine A3 (A2 ?_)
 refine A5 rfl ?_
 refine B5 rfl ?_
 refine A4 ?_
 refine C5 ?_
 exact AV4 [0] 0 (nin TCell.ow l xs) [] (v, xs) (hxs) rfl (show List.Perm (nin TCell.ow l xs) ((nin TCell.ow l xs) ++ []) from AB3) (by rfl) (S1 rfl (C3 rfl (by first | rfl | (refine congrArg AV.bool ?_; simp_all; done))))
end Go.Proofs.YtkegepoihkhihaaGreat

namespace Go.Proofs.YtkegepoihkhihaaGreat
open Go Go.AV Go.M
attribute [local irreducible] OpW OpA OpS AWP FSpec ESpec GSpec OpE RetOk RetOkG RvDen Le Ev GuardIs SrcIs
theorem AM3 {α : Type} {f : α → Nat} {l : List α} (i : Nat) : sizeL f (l.take i) ≤ sizeL f l := by
  have := p7 (f := f) (l := l.take i) (r := l.drop i)
  rw [List.take_append_drop] at this; omega
theorem l8 {α : Type} {f : α → Nat} {l : List α} {i : Nat} {x : α} (h : l[i]? = some x) : sizeL f (l.take (i + 1)) = sizeL f (l.take i) + (1 + f x) := by
  rw [List.take_add_one, h, p7]
  show _ + sizeL f [x] = _
  rw [N7]; rfl
def RowsTo (A : List (List AV)) (k : Str) (vs : List (List AV)) (B : List (List AV)) (D : List Own) (o2 : List TCell) (f : Value → List Value) : Prop :=
  ∀ y : Value, (f y).length = o2.length ∧ A ++ [AV.str k, AV.is y] :: B = nrows TCell.ocs o2 (f y) ∧ (Own.arr y 127 3 vs :: D).Perm (nin TCell.ow o2 (f y))
theorem Aw3 {o : List TCell} {xs : List Value} {p : Nat} {c : TCell} {y0 : Value} (hc : o[p]? = some c) (hy : xs[p]? = some y0) (hl : xs.length = o.length) (nv : TVer) :
    RowsTo (nrows TCell.ocs (o.take p) (xs.take p)) c.Key (c.Vers.map TVer.cs ++ [TVer.cs nv]) (nrows TCell.ocs (o.drop (p + 1)) (xs.drop (p + 1))) (nin TCell.ow (o.eraseIdx p) (xs.eraseIdx p)) (o.set p ⟨c.Key, c.Vers ++ [nv]⟩) (fun y => xs.set p y) := fun y => by
  have hp := (List.getElem?_eq_some_iff.1 hc).1
  have hx := (List.getElem?_eq_some_iff.1 hy).1
  have hc' : (o.set p ⟨c.Key, c.Vers ++ [nv]⟩)[p]? = some ⟨c.Key, c.Vers ++ [nv]⟩ := List.getElem?_set_self hp
  have hy' : (xs.set p y)[p]? = some y := List.getElem?_set_self hx
  refine ⟨by rw [List.length_set, List.length_set, hl], ?_, ?_⟩
  · rw [AE3 hc' hy', List.take_set_of_le (Nat.le_refl _), List.take_set_of_le (Nat.le_refl _), List.drop_set_of_lt (by omega), List.drop_set_of_lt (by omega)]
    rfl
  · have h := AO2 (ow := TCell.ow) hc' hy'
    rw [List.eraseIdx_set_eq, List.eraseIdx_set_eq] at h
    refine List.Perm.trans ?_ h.symm
    unfold TCell.ow
    simp only [List.map_append, List.map_cons, List.map_nil]
    exact List.Perm.refl _
theorem Aw4 {o : List TCell} {xs : List Value} {p : Nat} (hp : p ≤ o.length) (hl : xs.length = o.length) (k : Str) (nv : TVer) :
    RowsTo ((nrows TCell.ocs o xs).take p) k [TVer.cs nv] ((nrows TCell.ocs o xs).drop p) (nin TCell.ow o xs) (o.take p ++ ⟨k, [nv]⟩ :: o.drop p) (fun y => xs.take p ++ y :: xs.drop p) := fun y =>
  ⟨by rw [Am4 (by omega), Am4 hp, hl], BA5 (ocs := TCell.ocs) (p := ⟨k, [nv]⟩) hp hl, nin_ins (ow := TCell.ow) (p := ⟨k, [nv]⟩) hp hl⟩
theorem AI0 {l o : List TCell} {w : List TWrite} {t : Int} {i : Nat} {x : TWrite} (h : putAll l w t = putAll o (w.drop i) t) (hx : w[i]? = some x) (ht : ¬ t ≤ lastTime o x.Key) : putAll l w t = putAll (putC1 o x t) (w.drop (i + 1)) t := by
  rw [h, drop_some hx]
  unfold putAll
  rw [if_neg (by simpa using ht)]
  cases w.drop (i + 1) <;> rfl
theorem put_stop {l o : List TCell} {w : List TWrite} {t : Int} {i : Nat} {x : TWrite} (h : putAll l w t = putAll o (w.drop i) t) (hx : w[i]? = some x) (ht : t ≤ lastTime o x.Key) : putAll l w t = none := by
  rw [h, drop_some hx]
  unfold putAll
  rw [if_pos (by simpa using ht)]
theorem put_end {l o : List TCell} {w : List TWrite} {t : Int} {i : Nat} (h : putAll l w t = putAll o (w.drop i) t) (hi : w.length ≤ i) : putAll l w t = some o := by
  rw [h, List.drop_eq_nil_of_le hi]; rfl
end Go.Proofs.YtkegepoihkhihaaGreat

set_option maxHeartbeats 4000000
namespace Go.Proofs.YtkegepoihkhihaaGreat
open Go Go.AV Go.M
attribute [local irreducible] OpW OpA OpS AWP FSpec ESpec GSpec OpE RetOk RetOkG RvDen Le Ev GuardIs SrcIs
theorem BA6 (l : List TCell) (w : List TWrite) (t : Int) (ho : CellsOk l) (hs : sizeL TCell.size l ≤ 1048576) (hw : sizeL TWrite.size w ≤ 1048576) (ht1 : 1 ≤ t) : GSpec Tryz.prog 204 [AV.list 2 (l.map TCell.cs), AV.list 3 (w.map TWrite.cs), AV.int t] [] (fun x : Value × List Value => x.2.length = (putP l w t).1.length) (fun x => .arr x.1 125 2 (nrows TCell.ocs (putP l w t).1 x.2) :: nin TCell.ow (putP l w t).1 x.2) (fun x => AV.tup [AV.is x.1, AV.bool (putP l w t).2]) := by
 have hwl : w.length ≤ 1048576 := Nat.le_trans O3 hw
 refine J9 Tryz.func204 rfl Tryz.ntmps204 rfl ?_
 refine A3 (A2 ?_)
 refine A1 rfl (B7 rfl O7) ?_
 refine A1 rfl (B7 rfl F5) ?_
 refine A4 (A3 (A2 ?_))
 refine A5 rfl ?_
 refine Az7 [] 0 1 ([]) ([]) (fun zz => nin TCell.ow l zz.2) rfl rfl rfl rfl Tryz.call224 rfl rfl (show List.Perm ([]) (([]) ++ ([])) from List.Perm.refl _) (Ae6 l (by omega)) (A7 (A0 rfl) C6) (fun a => perm_lin) ?_
 intro x15 ok15
 refine B5 rfl ?_
 refine A4 (A3 (A3 (A2 ?_)))
 refine A5 rfl ?_
 refine A1 rfl (G9 rfl G3 (A0 rfl)) ?_
 refine A1 rfl (C1 rfl B6) ?_
 refine A4 (C8 ?_)
 refine c7 [(2, _), (16, _), (17, _)] [] (fun (i : Nat) (v : Value) (q : List TCell) (xs : List Value) => i ≤ w.length ∧ xs.length = q.length ∧ CellsOk q ∧ sizeL TCell.size q ≤ 1048576 + 2 * sizeL TWrite.size (w.take i) ∧ putAll l w t = putAll q (w.drop i) t) (fun (i : Nat) (v : Value) (q : List TCell) (xs : List Value) => [.arr v 125 2 (nrows TCell.ocs q xs)] ++ (nin TCell.ow q xs)) (fun (i : Nat) (v : Value) (q : List TCell) (xs : List Value) => [(8, AV.is v), (18, AV.int i)]) (fun (i : Nat) (v : Value) (q : List TCell) (xs : List Value) => w.length - i) (0) (x15.1) (l) (x15.2) ?_ (P8 (by rw [List.append_nil]; rfl) ⟨rfl, rfl, rfl, rfl, rfl, trivial⟩) ?_
 ·exact ⟨Nat.zero_le _, ok15, ho, by omega, rfl⟩
 intro i v q xs hinv
 have hlen := hinv.2.1
 have hinvo := hinv
 have hrl : (nrows TCell.ocs q xs).length = q.length := AL4 hlen
 refine O1 (List.append_nil _) ?_
 refine A3 (A2 ?_)
 refine A1 rfl (J6 rfl (A0 rfl) (A0 rfl)) ?_
 refine A4 (A3 ?_)
 refine C4 (A0 rfl) ?_ ?_
 ·intro h19
  have k19 := of_decide_eq_true h19; try simp only [A8] at k19
  have hlt : i < w.length := by omega
  obtain ⟨x, hx⟩ := get_some hlt
  have htk := AM3 (f := TWrite.size) (l := w) i
  have hso : sizeL TCell.size q ≤ 4194304 := by omega
  have hql : q.length ≤ 4194304 := Nat.le_trans O3 hso
  refine C7 (A3 (C8 (A3 (A2 ?_))))
  refine A1 rfl (I9 rfl G3 I3 (A0 rfl) (A0 rfl) hx (by first | omega | (simp only [D3, A9, szR] at *; omega))) ?_
  refine A1 rfl (K6 rfl (A0 rfl) U5 I3) ?_
  refine F9 rfl rfl rfl rfl Tryz.zeroValue101 rfl ?_
  intro b10
  refine D6 0 rfl rfl rfl (A0 rfl) (A0 rfl) (E7 _) rfl I3 rfl ?_
  refine A4 (A3 (A2 ?_))
  refine A5 rfl ?_
  refine A1 rfl (B1 1 rfl J0 rfl E8 (A0 rfl) rfl) ?_
  refine A1 rfl (B0 0 rfl (A0 rfl) rfl G5 rfl) ?_
  refine A1 rfl (B1 2 rfl J0 rfl J8 (A0 rfl) rfl) ?_
  refine A1 rfl (B0 0 rfl (A0 rfl) rfl L8 rfl) ?_
  refine A1 rfl (O0 (places := #[(0, 1), (1, 1), (2, 1)]) rfl L2 Tryz.zeroValue127 (fun w => by kernel_rfl) rfl (D9 (A0 rfl) (K5 _ _) (D9 (A0 rfl) (P2 _) (D9 (A0 rfl) (Y6 _) H7))) rfl) ?_
  refine F9 rfl rfl rfl rfl Tryz.zeroValue127 rfl ?_
  intro b11
  refine D6 0 rfl rfl rfl (A0 rfl) (A0 rfl) (E7 _) rfl N0 rfl ?_
  refine A4 (A3 (A2 ?_))
  refine A5 rfl ?_
  refine A1 rfl (W1 2 rfl E9 (A0 rfl) rfl) ?_
  refine B5 rfl ?_
  refine A4 (A3 (C8 ?_))
  refine J1 [(2, _), (8, _), (10, _), (11, _), (16, _), (17, _), (18, _), (19, _), (20, _), (21, _), (22, _), (23, _), (24, _), (25, _), (26, _), (27, _), (28, _), (29, _)] _ (fun (j : Nat) => j ≤ q.length ∧ ∀ (a : Nat) (c : TCell), j ≤ a → q[a]? = some c → Op.bytesLess x.Key c.Key = true) (fun (j : Nat) => []) (fun (j : Nat) => [(12, AV.int j)]) (fun (j : Nat) => j) (q.length) ?_ (K0 ⟨congrArg (fun z : Nat => some (AV.int z)) hrl, rfl, rfl, rfl, rfl, rfl, rfl, rfl, rfl, rfl, rfl, rfl, rfl, rfl, rfl, rfl, rfl, rfl, rfl, trivial⟩) ?_
  ·exact ⟨Nat.le_refl _, fun a c ha hc => by have := (List.getElem?_eq_some_iff.1 hc).1; omega⟩
  intro j hinv
  obtain ⟨c, hc0⟩ := AA5 q (j - 1)
  obtain ⟨y, hy0⟩ : ∃ y, j - 1 < xs.length → xs[j - 1]? = some y := ⟨xs[j - 1]?.getD (.int .i64 0), fun h => by rw [List.getElem?_eq_getElem h]; rfl⟩
  have hj1 : 0 < j → ((j : Int) - 1).toNat = j - 1 := fun _ => by omega
  have hrow0 : 0 < j → (nrows TCell.ocs q xs)[((j : Int) - 1).toNat]? = some (TCell.ocs c y) := fun h => by rw [hj1 h]; exact Ad0 (hc0 (by omega)) (hy0 (by omega))
  refine A3 (A3 ?_)
  refine I8 (by kernel_rfl) (by kernel_rfl) rfl ?_
  refine B2 rfl rfl (C1 rfl (A0 rfl)) ?_
  refine B2 rfl rfl (O5 rfl (A0 rfl) B6) ?_
  refine B2 rfl rfl (C1 rfl (A0 rfl)) ?_
  refine D2 rfl (H1 rfl rfl rfl) (fun hc => C1 rfl (A0 rfl)) ?_
  refine D2 rfl (H1 rfl rfl rfl) (fun hc => C1 rfl (A0 rfl)) ?_
  refine D2 rfl (H1 rfl rfl rfl) (fun hc => Q3 rfl (A6 rfl hc) B6 (by first | omega | ((try simp only [D3, A9, szR] at *); omega) | (have hc2 := hc; simp only [P3, beq_iff_eq, bne_iff_ne, A8, F0] at hc2; omega))) ?_
  refine D2 rfl (H1 rfl rfl rfl) (fun hc => W5 2 rfl E9 G0 (A6 rfl hc) rfl (A6 rfl hc) (by first | omega | ((try simp only [D3, A9, szR] at *); omega) | (have hc2 := hc; simp only [P3, beq_iff_eq, bne_iff_ne, A8, F0] at hc2; omega)) (by first | omega | ((try simp only [D3, A9, szR] at *); omega) | (have hc2 := hc; simp only [P3, beq_iff_eq, bne_iff_ne, A8, F0] at hc2; omega))) ?_
  refine D2 rfl (H1 rfl rfl rfl) (fun hc => AK6 2 rfl G7 rfl E8 (A6 rfl hc) rfl rfl (hrow0 (by first | omega | ((try simp only [D3, A9, szR] at *); omega) | (have hc2 := hc; simp only [P3, beq_iff_eq, bne_iff_ne, A8, F0] at hc2; omega)))) ?_
  refine D2 rfl (H1 rfl rfl rfl) (fun hc => AS2 2 rfl (A6 rfl hc) rfl G5 (hrow0 (by first | omega | ((try simp only [D3, A9, szR] at *); omega) | (have hc2 := hc; simp only [P3, beq_iff_eq, bne_iff_ne, A8, F0] at hc2; omega))) rfl) ?_
  refine D2 rfl (H1 rfl rfl rfl) (fun hc => B1 0 rfl J0 rfl E8 (A0 rfl) rfl) ?_
  refine D2 rfl (H1 rfl rfl rfl) (fun hc => B0 1 rfl (A6 rfl hc) rfl G5 rfl) ?_
  refine D2 rfl (H1 rfl rfl rfl) (fun hc => Aj5 rfl (A6 rfl hc) (A6 rfl hc)) ?_
  refine B2 rfl rfl (H6 rfl (A0 rfl) (F6 rfl)) ?_
  refine P1 ?_
  refine C4 (A0 rfl) ?_ ?_
  ·intro h42
   have hgt : 0 < j ∧ Op.bytesLess x.Key c.Key = true := by rw [bytesLess_tri]; simpa using h42
   refine C7 (C8 (A2 ?_))
   refine A5 rfl ?_
   refine A1 rfl (Q3 rfl (A0 rfl) B6 (by first | omega | (simp only [D3, A9, szR] at *; omega))) ?_
   refine B5 rfl ?_
   refine A4 ?_
   refine i8 ?_
   refine L4 j (j - 1) ?_ ?_ (K0 ⟨congrArg (fun z : Int => some (AV.int z)) (by omega), rfl, rfl, rfl, rfl, rfl, rfl, rfl, rfl, rfl, rfl, rfl, rfl, rfl, rfl, rfl, rfl, rfl, rfl, trivial⟩)
   ·exact ⟨by omega, fun a c' ha hc' => if h9 : j ≤ a then hinv.2 a c' h9 hc' else (by have e : a = j - 1 := (by omega); subst e; rw [hc0 (by omega)] at hc'; injection hc' with hc'; subst hc'; exact hgt.2)⟩
   omega
  intro h42
  have hng : 0 < j → Op.bytesLess x.Key c.Key = false := fun h => by rw [bytesLess_tri]; simpa [h] using h42
  refine G6 ?_
  refine A3 (A3 ?_)
  refine I8 (by kernel_rfl) (by kernel_rfl) rfl ?_
  refine B2 rfl rfl (C1 rfl (A0 rfl)) ?_
  refine B2 rfl rfl (O5 rfl (A0 rfl) B6) ?_
  refine B2 rfl rfl (C1 rfl (A0 rfl)) ?_
  refine D2 rfl (H1 rfl rfl rfl) (fun hc => C1 rfl (A0 rfl)) ?_
  refine D2 rfl (H1 rfl rfl rfl) (fun hc => C1 rfl (A0 rfl)) ?_
  refine D2 rfl (H1 rfl rfl rfl) (fun hc => Q3 rfl (A6 rfl hc) B6 (by first | omega | ((try simp only [D3, A9, szR] at *); omega) | (have hc2 := hc; simp only [P3, beq_iff_eq, bne_iff_ne, A8, F0] at hc2; omega))) ?_
  refine D2 rfl (H1 rfl rfl rfl) (fun hc => W5 2 rfl E9 G0 (A6 rfl hc) rfl (A6 rfl hc) (by first | omega | ((try simp only [D3, A9, szR] at *); omega) | (have hc2 := hc; simp only [P3, beq_iff_eq, bne_iff_ne, A8, F0] at hc2; omega)) (by first | omega | ((try simp only [D3, A9, szR] at *); omega) | (have hc2 := hc; simp only [P3, beq_iff_eq, bne_iff_ne, A8, F0] at hc2; omega))) ?_
  refine D2 rfl (H1 rfl rfl rfl) (fun hc => AK6 2 rfl G7 rfl E8 (A6 rfl hc) rfl rfl (hrow0 (by first | omega | ((try simp only [D3, A9, szR] at *); omega) | (have hc2 := hc; simp only [P3, beq_iff_eq, bne_iff_ne, A8, F0] at hc2; omega)))) ?_
  refine D2 rfl (H1 rfl rfl rfl) (fun hc => AS2 2 rfl (A6 rfl hc) rfl G5 (hrow0 (by first | omega | ((try simp only [D3, A9, szR] at *); omega) | (have hc2 := hc; simp only [P3, beq_iff_eq, bne_iff_ne, A8, F0] at hc2; omega))) rfl) ?_
  refine D2 rfl (H1 rfl rfl rfl) (fun hc => B1 0 rfl J0 rfl E8 (A0 rfl) rfl) ?_
  refine D2 rfl (H1 rfl rfl rfl) (fun hc => B0 1 rfl (A6 rfl hc) rfl G5 rfl) ?_
  refine D2 rfl (H1 rfl rfl rfl) (fun hc => u9 rfl (A6 rfl hc) (A6 rfl hc)) ?_
  refine B2 rfl rfl (H6 rfl (A0 rfl) (F6 rfl)) ?_
  refine P1 ?_
  refine C4 (A0 rfl) ?_ ?_
  ·intro h57
   have hf : 0 < j ∧ c.Key = x.Key := by simpa using h57
   have hc := hc0 (by omega)
   have hy := hy0 (by omega)
   have hins := scan_has hinvo.2.2.1.1 hc hf.2 ⟨t, x.Val, x.Gone⟩
   refine A3 (A3 (A2 ?_))
   refine A5 rfl ?_
   refine A1 rfl (B1 0 rfl J0 rfl E8 (A0 rfl) rfl) ?_
   refine A1 rfl (B0 1 rfl (A0 rfl) rfl G5 rfl) ?_
   refine A1 rfl (g8 rfl Tryz.call127 rfl (AE8 q x.Key hinvo.2.2.1 hso) (D5 _ _) (Q4 (AK5 (A0 rfl) (AH1 TCell.lcM (by first | exact hlen | exact hlen.trans (AH2 _ _).symm) 2 rfl (fun o ho => List.mem_of_mem_drop (i := 3) (show o ∈ nin TCell.ow q xs from by first | exact ho | exact List.mem_append_left _ ho | exact List.mem_append_right _ ho | exact List.mem_append_right _ (List.mem_append_left _ ho) | exact List.mem_append_right _ (List.mem_append_right _ ho))))) (Q4 (evb (A0 rfl)) X3))) ?_
   refine A5 rfl ?_
   refine A1 rfl (Z9 rfl (A0 rfl) (A0 rfl)) ?_
   refine A4 ?_
   refine C4 (A0 rfl) ?_ ?_
   ·intro h63
    have k63 := of_decide_eq_true h63; try simp only [A8] at k63
    have he : putP l w t = ([], false) := by unfold putP; rw [put_stop hinvo.2.2.2.2 hx k63]
    rw [he]
    refine A3 (A2 ?_)
    refine A1 rfl (B7 rfl O7) ?_
    refine A1 rfl (B7 rfl F5) ?_
    refine A4 ?_
    refine C5 ?_
    refine a8 125 2 ?_
    first | exact N5 [0] ((Value.slice none 0 0), []) (rfl) rfl (by rfl) (W6 rfl (by decide) (F4 (C3 rfl (by rfl)) (F4 (C3 rfl (by rfl)) M5))) | exact AV4 [0] 3 (nin TCell.ow q xs) [] ((Value.slice none 0 0), []) (rfl) rfl (show List.Perm (nin TCell.ow q xs) ((nin TCell.ow q xs) ++ []) from AB3) (by rfl) (W6 rfl (by decide) (F4 (C3 rfl (by rfl)) (F4 (C3 rfl (by rfl)) M5))) | exact N5 [0] ((Value.slice none 0 0), xs) (hinv.2.1) rfl (by rfl) (W6 rfl (by decide) (F4 (C3 rfl (by rfl)) (F4 (C3 rfl (by rfl)) M5))) | exact AV4 [0] 3 (nin TCell.ow q xs) [] ((Value.slice none 0 0), xs) (hinv.2.1) rfl (show List.Perm (nin TCell.ow q xs) ((nin TCell.ow q xs) ++ []) from AB3) (by rfl) (W6 rfl (by decide) (F4 (C3 rfl (by rfl)) (F4 (C3 rfl (by rfl)) M5)))
   intro h63
   have k63 := of_decide_eq_false h63; try simp only [A8] at k63
   have hnt : ¬ t ≤ lastTime q x.Key := k63
   have hpo := (List.getElem?_eq_some_iff.1 hc).1
   have hA : (nrows TCell.ocs (q.take (j - 1)) (xs.take (j - 1))).length = ((j : Int) - 1).toNat := (Av4 (ocs := TCell.ocs) hc hy).trans (hj1 hf.1).symm
   obtain ⟨fx, hto⟩ : ∃ fx, RowsTo (nrows TCell.ocs (q.take (j - 1)) (xs.take (j - 1))) c.Key (c.Vers.map TVer.cs ++ [TVer.cs ⟨t, x.Val, x.Gone⟩]) (nrows TCell.ocs (q.drop (j - 1 + 1)) (xs.drop (j - 1 + 1))) (nin TCell.ow (q.eraseIdx (j - 1)) (xs.eraseIdx (j - 1))) (putC1 q x t) fx := ⟨_, by have h7 := Aw3 hc hy hlen ⟨t, x.Val, x.Gone⟩; unfold putC1; rw [hins]; rw [hf.2] at h7 ⊢; exact h7⟩
   have hcs := n7 (Nat.le_trans (Z2 hc) hso)
   rw [AE3 hc hy]
   refine AWP.le (AA6 3 (t := (TCell.ow c y) ++ (nin TCell.ow (q.eraseIdx (j - 1)) (xs.eraseIdx (j - 1)))) (AO2 (ow := TCell.ow) hc hy)) ?_
   refine C7 (A3 ?_)
   refine AWP.le (H4 [0, 1, 1] rfl) ?_
   refine U4 _ [(0, false), (1, false), (2, false), (3, false), (4, false), (5, false), (6, false), (7, false), (8, false), (9, false), (10, false), (11, true)] (by kernel_rfl) (by kernel_rfl) rfl (W8 2) ?_
   refine G1 rfl rfl rfl (fun ext => C1 rfl (A0 rfl)) ?_
   refine G1 rfl rfl rfl (fun ext => C1 rfl (A0 rfl)) ?_
   refine G1 rfl rfl rfl (fun ext => Q3 rfl (A0 rfl) B6 (by first | omega | (simp only [D3, A9, szR] at *; omega))) ?_
   refine G1 rfl rfl rfl (fun ext => C1 rfl (A0 rfl)) ?_
   refine G1 rfl rfl rfl (fun ext => C1 rfl (A0 rfl)) ?_
   refine G1 rfl rfl rfl (fun ext => Q3 rfl (A0 rfl) B6 (by first | omega | (simp only [D3, A9, szR] at *; omega))) ?_
   refine G1 rfl rfl rfl (fun ext => W5 1 rfl E9 G0 (A0 rfl) rfl (A0 rfl) (by omega) (by rw [I5, J3]; omega)) ?_
   refine G1 rfl rfl rfl (fun ext => AK6 1 rfl G7 rfl P0 (A0 rfl) rfl rfl (AF4 hA)) ?_
   refine G1 rfl rfl rfl (fun ext => AS2 1 rfl (A0 rfl) rfl R8 (AF4 hA) rfl) ?_
   refine G1 rfl rfl rfl (fun ext => F7 0 rfl (A0 rfl) rfl e6 N0 rfl) ?_
   refine G1 rfl rfl rfl (fun ext => L0 rfl K1 N0 Tryz.zeroValue127 rfl rfl rfl rfl (D9 (A0 rfl) (E7 _) H7) rfl rfl) ?_
   refine U2 rfl rfl rfl (O6 (by' := 32) 2 rfl K1 Tryz.type127 rfl rfl rfl rfl rfl rfl (A0 rfl) (A0 rfl) rfl (by first | omega | (simp only [D3, A9, szR] at *; omega))) (fun a _ => (by first | exact F2 rfl | exact F2 (List.append_assoc _ _ _) | exact I7)) ?_
   intro v75_2 _
   refine j7 ?_
   refine A1 rfl (W5 1 rfl E9 G0 (A0 rfl) rfl (A0 rfl) (by omega) (by rw [I5, J3]; omega)) ?_
   refine A1 rfl (AK6 1 rfl G7 rfl P0 (A0 rfl) rfl rfl (AF4 hA)) ?_
   refine W4 2 rfl fun one_v75_2 => ?_
   refine AU9 1 rfl rfl rfl (A0 rfl) (A0 rfl) (V5 one_v75_2) rfl P0 hA rfl ?_
   refine A4 ?_
   refine G6 ?_
   refine O1 (by first | (simp only [List.singleton_append, pick, S9, S6, S2, R9, S3, List.nil_append, T0, S7, List.append_nil, R6, List.take_zero, S0, List.drop_zero]; exact rfl) | exact rfl) ?_
   refine AWP.le (H4 [0, 0, 1, 0] rfl) ?_
   refine AWP.le (AA6 3 (t := nin TCell.ow (putC1 q x t) (fx v75_2)) ((hto v75_2).2.2)) ?_
   refine A2 ?_
   refine A1 rfl (G8 rfl (A0 rfl) B6 (by first | omega | (simp only [D3, A9, szR] at *; omega))) ?_
   refine A5 rfl ?_
   refine A4 ?_
   refine U9 i v q xs (i + 1) (v) (putC1 q x t) (fx v75_2) ?_ ?_ (Le.trans (H4 [0, 1, 0] rfl) (L7 2 (Eq.trans (by first | exact congrArg (fun z => Own.arr _ _ _ z :: _) (hto v75_2).2.1 | exact congrArg (fun z => Own.arr _ _ _ z :: _) (by first | (rw [List.nil_append, List.append_assoc]; exact (hto v75_2).2.1) | (rw [List.append_assoc]; exact (hto v75_2).2.1))) (List.append_nil _).symm) ⟨rfl, rfl, rfl, rfl, rfl, trivial⟩))
   ·exact ⟨by omega, (hto _).1, m5 hinvo.2.2.1 _ _, by have h8 := p8 q x t; have h9 := l8 (f := TWrite.size) hx; omega, AI0 hinvo.2.2.2.2 hx hnt⟩
   omega
  intro h57
  have hnf : 0 < j → c.Key ≠ x.Key := fun h => by simpa [h] using h57
  obtain ⟨hins, hl0⟩ := scan_new hinvo.2.2.1.1 hinv.1 hinv.2 (fun z hz hzz => by rw [hc0 (by omega)] at hzz; injection hzz with hzz; subst hzz; rw [bytesLess_tri, hng hz]; simpa using fun e => hnf hz e.symm) ⟨t, x.Val, x.Gone⟩
  have hnt : ¬ t ≤ lastTime q x.Key := by rw [hl0]; omega
  obtain ⟨fx, hto⟩ : ∃ fx, RowsTo ((nrows TCell.ocs q xs).take j) x.Key [TVer.cs ⟨t, x.Val, x.Gone⟩] ((nrows TCell.ocs q xs).drop j) (nin TCell.ow q xs) (putC1 q x t) fx := ⟨_, by unfold putC1; rw [hins]; exact Aw4 hinv.1 hlen _ _⟩
  refine C7 (A3 ?_)
  refine AWP.le (Y8 [2] 8 rfl rfl (N1 (G4 (i := 0) rfl) J4) R5) ?_
  refine A2 ?_
  refine R7 rfl rfl rfl rfl E9 G0 ?_
  intro v78
  refine A5 rfl ?_
  refine A5 rfl ?_
  refine A1 rfl (Ak2 rfl E9 G0 (A0 rfl) (A0 rfl) (by omega) (by rw [hrl]; omega)) ?_
  refine M0 (by' := 40) 0 rfl rfl rfl rfl E9 Tryz.type125 rfl rfl rfl rfl rfl rfl (A0 rfl) (A0 rfl) rfl (by simp only [L6, List.nil_append, I5, F0, List.length_drop, J3, A9, hrl]; omega) ?_
  intro v82_3
  refine B5 rfl ?_
  refine A4 ?_
  refine AWP.le (Y8 [0] 13 rfl rfl (N1 (G4 (i := 0) rfl) J4) R5) ?_
  refine AWP.le (H4 [0, 0] rfl) ?_
  refine X7 _ 14 (.pure 1 (.pure 2 (.pure 3 (.pure 5 (.pure 6 (.pure 7 (.pure 12 (.e2 0 (.e2 4 (.e1 8 (.pure 9 (.pure 10 (.e1 11 (.e1 13 .nil))))) 8 (.pure 9 (.pure 10 (.e1 4 (.e1 11 (.e1 13 .nil)))))) 8 (.pure 9 (.pure 10 (.e1 0 (.e1 4 (.e1 11 (.e1 13 .nil)))))))))))))) (by kernel_rfl) (by kernel_rfl) rfl (W8 2) ?_
  refine H0 rfl rfl rfl (fun ext => C1 rfl (A0 rfl)) ?_
  refine H0 rfl rfl rfl (fun ext => C1 rfl (A0 rfl)) ?_
  refine H0 rfl rfl rfl (fun ext => Ak1 rfl E9 G0 (A0 rfl) (A0 rfl) (by omega) (by rw [hrl]; omega)) ?_
  refine H0 rfl rfl rfl (fun ext => B1 0 rfl J0 rfl E8 (A0 rfl) rfl) ?_
  refine H0 rfl rfl rfl (fun ext => B0 1 rfl (A0 rfl) rfl G5 rfl) ?_
  refine H0 rfl rfl rfl (fun ext => F7 0 rfl (A0 rfl) rfl e6 N0 rfl) ?_
  refine H0 rfl rfl rfl (fun ext => C1 rfl (A0 rfl)) ?_
  refine AO1 ?_ ?_
  ·refine V0 rfl rfl rfl (AA7 2 <| Y1 rfl E9 G0) (fun a _ => (by first | exact F2 rfl | exact F2 (List.append_assoc _ _ _) | exact I7)) ?_
   intro v83 _
   refine AO1 ?_ ?_
   ·refine V0 rfl rfl rfl (O6 (by' := 40) 2 rfl E9 Tryz.type125 rfl rfl rfl rfl rfl rfl (A0 rfl) (A0 rfl) rfl (by simp only [L6, List.nil_append, I5, F0, List.length_drop, J3, A9, hrl]; omega)) (fun a _ => (by first | exact F2 rfl | exact F2 (List.append_assoc _ _ _) | exact I7)) ?_
    intro v87_4 _
    refine X8 ?_
    refine V0 rfl rfl rfl (g9 3 (fun _ => rfl) (AA7 3 <| AG8 rfl K1 N0 Tryz.zeroValue127 rfl rfl rfl rfl (D9 (A0 rfl) (E7 _) H7) rfl rfl)) (fun a _ => (by first | exact F2 rfl | exact F2 (List.append_assoc _ _ _) | exact I7)) ?_
    intro v91 hone_v91
    have one_v91 := hone_v91.2
    refine H0 rfl rfl rfl (fun ext => O0 (places := #[(0, 1), (1, 1)]) rfl G7 Tryz.zeroValue125 (fun w => by kernel_rfl) rfl (D9 (A0 rfl) (P2 _) (D9 (A0 rfl) (V5 one_v91) H7)) rfl) ?_
    refine H0 rfl rfl rfl (fun ext => L0 rfl E9 G0 Tryz.zeroValue125 rfl rfl rfl rfl (D9 (A0 rfl) (E7 _) H7) rfl rfl) ?_
    refine X8 ?_
    refine V0 rfl rfl rfl (O6 (by' := 40) 2 rfl E9 Tryz.type125 rfl rfl rfl rfl rfl rfl (A0 rfl) (A0 rfl) rfl (by simp only [L6, List.nil_append, I5, F0, List.length_drop, J3, A9, hrl]; omega)) (fun a _ => (by first | exact F2 rfl | exact F2 (List.append_assoc _ _ _) | exact I7)) ?_
    intro v94_5 _
    refine X8 ?_
    refine V0 rfl rfl rfl (O6 (by' := 40) 2 rfl E9 Tryz.type125 rfl rfl rfl rfl rfl rfl (A0 rfl) (A0 rfl) rfl (by simp only [L6, List.nil_append, I5, F0, List.length_drop, J3, A9, hrl]; omega)) (fun a _ => (by first | exact F2 rfl | exact F2 (List.append_assoc _ _ _) | exact I7)) ?_
    intro v96_6 _
    refine c5 ?_
    refine B5 rfl ?_
    refine A4 ?_
    refine O1 (by first | (simp only [List.singleton_append, pick, S9, S6, S2, R9, S3, List.nil_append, T0, S7, List.append_nil, R6, List.take_zero, S0, List.drop_zero]; exact rfl) | exact rfl) ?_
    refine AWP.le (H4 [0, 0, 0, 0] rfl) ?_
    refine AWP.le (AA6 3 (t := nin TCell.ow (putC1 q x t) (fx v91)) ((hto v91).2.2)) ?_
    refine A2 ?_
    refine A1 rfl (G8 rfl (A0 rfl) B6 (by first | omega | (simp only [D3, A9, szR] at *; omega))) ?_
    refine A5 rfl ?_
    refine A4 ?_
    refine U9 i v q xs (i + 1) (v96_6) (putC1 q x t) (fx v91) ?_ ?_ (Le.trans (H4 [0, 0, 0] rfl) (L7 2 (Eq.trans (by first | exact congrArg (fun z => Own.arr _ _ _ z :: _) (hto v91).2.1 | exact congrArg (fun z => Own.arr _ _ _ z :: _) (by first | (rw [List.nil_append, List.append_assoc]; exact (hto v91).2.1) | (rw [List.append_assoc]; exact (hto v91).2.1))) (List.append_nil _).symm) ⟨rfl, rfl, rfl, rfl, rfl, trivial⟩))
    ·exact ⟨by omega, (hto _).1, m5 hinvo.2.2.1 _ _, by have h8 := p8 q x t; have h9 := l8 (f := TWrite.size) hx; omega, AI0 hinvo.2.2.2.2 hx hnt⟩
    omega
   refine V0 rfl rfl rfl (g9 3 (fun _ => rfl) (AA7 3 <| AG8 rfl K1 N0 Tryz.zeroValue127 rfl rfl rfl rfl (D9 (A0 rfl) (E7 _) H7) rfl rfl)) (fun a _ => (by first | exact F2 rfl | exact F2 (List.append_assoc _ _ _) | exact I7)) ?_
   intro v91 hone_v91
   have one_v91 := hone_v91.2
   refine H0 rfl rfl rfl (fun ext => O0 (places := #[(0, 1), (1, 1)]) rfl G7 Tryz.zeroValue125 (fun w => by kernel_rfl) rfl (D9 (A0 rfl) (P2 _) (D9 (A0 rfl) (V5 one_v91) H7)) rfl) ?_
   refine H0 rfl rfl rfl (fun ext => L0 rfl E9 G0 Tryz.zeroValue125 rfl rfl rfl rfl (D9 (A0 rfl) (E7 _) H7) rfl rfl) ?_
   refine X8 ?_
   refine V0 rfl rfl rfl (O6 (by' := 40) 2 rfl E9 Tryz.type125 rfl rfl rfl rfl rfl rfl (A0 rfl) (A0 rfl) rfl (by simp only [L6, List.nil_append, I5, F0, List.length_drop, J3, A9, hrl]; omega)) (fun a _ => (by first | exact F2 rfl | exact F2 (List.append_assoc _ _ _) | exact I7)) ?_
   intro v87_7 _
   refine X8 ?_
   refine V0 rfl rfl rfl (O6 (by' := 40) 2 rfl E9 Tryz.type125 rfl rfl rfl rfl rfl rfl (A0 rfl) (A0 rfl) rfl (by simp only [L6, List.nil_append, I5, F0, List.length_drop, J3, A9, hrl]; omega)) (fun a _ => (by first | exact F2 rfl | exact F2 (List.append_assoc _ _ _) | exact I7)) ?_
   intro v94_8 _
   refine X8 ?_
   refine V0 rfl rfl rfl (O6 (by' := 40) 2 rfl E9 Tryz.type125 rfl rfl rfl rfl rfl rfl (A0 rfl) (A0 rfl) rfl (by simp only [L6, List.nil_append, I5, F0, List.length_drop, J3, A9, hrl]; omega)) (fun a _ => (by first | exact F2 rfl | exact F2 (List.append_assoc _ _ _) | exact I7)) ?_
   intro v96_9 _
   refine c5 ?_
   refine B5 rfl ?_
   refine A4 ?_
   refine O1 (by first | (simp only [List.singleton_append, pick, S9, S6, S2, R9, S3, List.nil_append, T0, S7, List.append_nil, R6, List.take_zero, S0, List.drop_zero]; exact rfl) | exact rfl) ?_
   refine AWP.le (H4 [0, 0, 0, 0] rfl) ?_
   refine AWP.le (AA6 3 (t := nin TCell.ow (putC1 q x t) (fx v91)) ((hto v91).2.2)) ?_
   refine A2 ?_
   refine A1 rfl (G8 rfl (A0 rfl) B6 (by first | omega | (simp only [D3, A9, szR] at *; omega))) ?_
   refine A5 rfl ?_
   refine A4 ?_
   refine U9 i v q xs (i + 1) (v96_9) (putC1 q x t) (fx v91) ?_ ?_ (Le.trans (H4 [0, 0, 0] rfl) (L7 2 (Eq.trans (by first | exact congrArg (fun z => Own.arr _ _ _ z :: _) (hto v91).2.1 | exact congrArg (fun z => Own.arr _ _ _ z :: _) (by first | (rw [List.nil_append, List.append_assoc]; exact (hto v91).2.1) | (rw [List.append_assoc]; exact (hto v91).2.1))) (List.append_nil _).symm) ⟨rfl, rfl, rfl, rfl, rfl, trivial⟩))
   ·exact ⟨by omega, (hto _).1, m5 hinvo.2.2.1 _ _, by have h8 := p8 q x t; have h9 := l8 (f := TWrite.size) hx; omega, AI0 hinvo.2.2.2.2 hx hnt⟩
   omega
  refine V0 rfl rfl rfl (g9 2 (fun _ => rfl) (AA7 2 <| AG8 rfl K1 N0 Tryz.zeroValue127 rfl rfl rfl rfl (D9 (A0 rfl) (E7 _) H7) rfl rfl)) (fun a _ => (by first | exact F2 rfl | exact F2 (List.append_assoc _ _ _) | exact I7)) ?_
  intro v91 hone_v91
  have one_v91 := hone_v91.2
  refine H0 rfl rfl rfl (fun ext => O0 (places := #[(0, 1), (1, 1)]) rfl G7 Tryz.zeroValue125 (fun w => by kernel_rfl) rfl (D9 (A0 rfl) (P2 _) (D9 (A0 rfl) (V5 one_v91) H7)) rfl) ?_
  refine H0 rfl rfl rfl (fun ext => L0 rfl E9 G0 Tryz.zeroValue125 rfl rfl rfl rfl (D9 (A0 rfl) (E7 _) H7) rfl rfl) ?_
  refine X8 ?_
  refine V0 rfl rfl rfl (AA7 3 <| Y1 rfl E9 G0) (fun a _ => (by first | exact F2 rfl | exact F2 (List.append_assoc _ _ _) | exact I7)) ?_
  intro v83 _
  refine X8 ?_
  refine V0 rfl rfl rfl (O6 (by' := 40) 3 rfl E9 Tryz.type125 rfl rfl rfl rfl rfl rfl (A0 rfl) (A0 rfl) rfl (by simp only [L6, List.nil_append, I5, F0, List.length_drop, J3, A9, hrl]; omega)) (fun a _ => (by first | exact F2 rfl | exact F2 (List.append_assoc _ _ _) | exact I7)) ?_
  intro v87_10 _
  refine X8 ?_
  refine V0 rfl rfl rfl (O6 (by' := 40) 3 rfl E9 Tryz.type125 rfl rfl rfl rfl rfl rfl (A0 rfl) (A0 rfl) rfl (by simp only [L6, List.nil_append, I5, F0, List.length_drop, J3, A9, hrl]; omega)) (fun a _ => (by first | exact F2 rfl | exact F2 (List.append_assoc _ _ _) | exact I7)) ?_
  intro v94_11 _
  refine X8 ?_
  refine V0 rfl rfl rfl (O6 (by' := 40) 3 rfl E9 Tryz.type125 rfl rfl rfl rfl rfl rfl (A0 rfl) (A0 rfl) rfl (by simp only [L6, List.nil_append, I5, F0, List.length_drop, J3, A9, hrl]; omega)) (fun a _ => (by first | exact F2 rfl | exact F2 (List.append_assoc _ _ _) | exact I7)) ?_
  intro v96_12 _
  refine c5 ?_
  refine B5 rfl ?_
  refine A4 ?_
  refine O1 (by first | (simp only [List.singleton_append, pick, S9, S6, S2, R9, S3, List.nil_append, T0, S7, List.append_nil, R6, List.take_zero, S0, List.drop_zero]; exact rfl) | exact rfl) ?_
  refine AWP.le (H4 [0, 0, 1, 0] rfl) ?_
  refine AWP.le (AA6 3 (t := nin TCell.ow (putC1 q x t) (fx v91)) ((hto v91).2.2)) ?_
  refine A2 ?_
  refine A1 rfl (G8 rfl (A0 rfl) B6 (by first | omega | (simp only [D3, A9, szR] at *; omega))) ?_
  refine A5 rfl ?_
  refine A4 ?_
  refine U9 i v q xs (i + 1) (v96_12) (putC1 q x t) (fx v91) ?_ ?_ (Le.trans (H4 [0, 0, 0] rfl) (L7 2 (Eq.trans (by first | exact congrArg (fun z => Own.arr _ _ _ z :: _) (hto v91).2.1 | exact congrArg (fun z => Own.arr _ _ _ z :: _) (by first | (rw [List.nil_append, List.append_assoc]; exact (hto v91).2.1) | (rw [List.append_assoc]; exact (hto v91).2.1))) (List.append_nil _).symm) ⟨rfl, rfl, rfl, rfl, rfl, trivial⟩))
  ·exact ⟨by omega, (hto _).1, m5 hinvo.2.2.1 _ _, by have h8 := p8 q x t; have h9 := l8 (f := TWrite.size) hx; omega, AI0 hinvo.2.2.2.2 hx hnt⟩
  omega
 intro h19
 have k19 := of_decide_eq_false h19; try simp only [A8] at k19
 have hge : w.length ≤ i := by omega
 have hpe := put_end hinv.2.2.2.2 hge
 have htk := AM3 (f := TWrite.size) (l := w) i
 have hso : sizeL TCell.size q ≤ 4194304 := by omega
 have he : putP l w t = (q, l3Good q) := by unfold putP; rw [hpe]
 rw [he]
 refine G6 ?_
 refine A3 (A2 ?_)
 refine A5 rfl ?_
 refine A5 rfl ?_
 refine A1 rfl (g8 rfl Tryz.call125 rfl (AQ0 q hso) (D0 _) (Q4 (AK5 (A0 rfl) (AH1 TCell.lcM (by first | exact hlen | exact hlen.trans (AH2 _ _).symm) 0 rfl (fun o ho => List.mem_of_mem_drop (i := 1) (show o ∈ nin TCell.ow q xs from by first | exact ho | exact List.mem_append_left _ ho | exact List.mem_append_right _ ho | exact List.mem_append_right _ (List.mem_append_left _ ho) | exact List.mem_append_right _ (List.mem_append_right _ ho))))) X3)) ?_
 refine B5 rfl ?_
 refine B5 rfl ?_
 refine A4 ?_
 refine C5 ?_
 first | exact N5 [0] (v, []) (rfl) rfl (by rfl) (W6 rfl (by decide) (F4 (C3 rfl (by rfl)) (F4 (C3 rfl (by rfl)) M5))) | exact AV4 [0] 0 (nin TCell.ow q xs) [] (v, []) (rfl) rfl (show List.Perm (nin TCell.ow q xs) ((nin TCell.ow q xs) ++ []) from AB3) (by rfl) (W6 rfl (by decide) (F4 (C3 rfl (by rfl)) (F4 (C3 rfl (by rfl)) M5))) | exact AV4 [0] 0 (nin TCell.ow q xs) [] (v, xs) (hinv.2.1) rfl (show List.Perm (nin TCell.ow q xs) ((nin TCell.ow q xs) ++ []) from AB3) (by rfl) (W6 rfl (by decide) (F4 (C3 rfl (by rfl)) (F4 (C3 rfl (by rfl)) M5)))
end Go.Proofs.YtkegepoihkhihaaGreat

namespace Go.AV
section
variable {P : Program} {G : Nat → Prop} {n : Nat} {own : List Own} {env : List (Nat × AV)} {fn : Func}
theorem AM4 {sel : List Own} {cs : List AV} {sz : Nat} (j : Nat) (h : cs[j]? = some AV.nils) : LendC sel cs (cs.set j (AV.list sz [])) := ⟨by rw [List.length_set], fun i x y hx hy => by
  by_cases e : j = i
  · subst e
    rw [List.getElem?_set_self (List.getElem?_eq_some_iff.1 h).1] at hy
    rw [h] at hx
    injection hx with hx; injection hy with hy; subst hx; subst hy
    exact lt_nils
  · rw [List.getElem?_set_ne e, hx] at hy
    injection hy with hy; subst hy; exact M4⟩
theorem AT2 {E : EnvF} {q : Operand} {v : Value} {e : TypeId} {sz : Nat} {es : List (List AV)} (i : Nat) (hi : own[i]? = some (.arr v e sz es)) (hq : Ev E q (AV.is v)) : SrcE own E q sz es := fun G w0 R0 R a w hc he => by
  have e1 : a.eval q = _ := hq R a he
  have hok := hc.owned _ (G4 hi)
  have hu := hok.2.1
  refine ⟨hu, ?_⟩
  obtain ⟨_, _, xs0, hown0, _⟩ := hok
  rcases hown0.2 with ⟨h1, h2⟩ | ⟨g, cap, cur0, h1, _⟩
  · subst h1
    have h3 : es = [] := List.eq_nil_of_length_eq_zero h2
    subst h3
    exact ⟨none, 0, [], e1, fun h => absurd rfl h⟩
  · subst h1
    by_cases hne : es = []
    · subst hne; exact ⟨_, cap, [], e1, fun h => absurd rfl h⟩
    · have hsrc := src_own0 (own := own) (E := E) (q := q) i hi hq
      obtain ⟨_, h7⟩ := hsrc G w0 R0 R a w hc he
      obtain ⟨ad, c, vs, k1, k2, k3⟩ := h7 hne
      exact ⟨_, c, vs, k1, fun _ => ⟨ad, rfl, k2, k3⟩⟩
theorem Ae7 {o : Oper} {ops : Array Oper} {E : EnvF} {α : Type} {ok : α → Prop} {W' : α → List Own} {V : α → AV} {sel rest : α → List Own} {Y : α → AV} (is : List Nat) (hp : ∀ a, pick (W' a) is = (sel a, rest a)) (hl : ∀ a, LendTo (sel a) (V a) (Y a)) (hG : ∀ a b, G b → b ∈ (rest a).filterMap Own.blk)
    (h : OpE P G n own ops o E ok W' V) : OpE P G n own ops o E ok rest Y := fun w0 R0 R a w h1 h2 h3 =>
  Oper.wp_mono2 (fun a' w' ⟨x, v, R', e0, e1, e2, e3, e4⟩ =>
    have hk := e8 e2 (hp x)
    ⟨x, v, lend (sel x) w' R', e0, e1, AH8 hk (hG x), e3.trans (d3 (V2 hk)), hl x G w0 R0 R' w' v (V2 hk) e4⟩) (fun _ _ _ h => h) (h w0 R0 R a w h1 h2 h3)
theorem z8 (i j sz : Nat) {b : Nat} {t : TypeId} {cs : List AV} (hi : own[i]? = some (.box b t cs)) (hj : cs[j]? = some AV.nils) (hG : ∀ b, G b → b ∈ own.filterMap Own.blk) : Le G n ⟨own, env⟩ ⟨own.set i (.box b t (cs.set j (AV.list sz []))), env⟩ :=
  s4 [] i (.box b t (cs.set j (AV.list sz []))) rfl hi ⟨rfl, rfl, AM4 j hj⟩ hG
theorem Z3 {α : Type} {ok : α → Prop} {O : α → List Own} {V : α → AV} (i j sz : Nat) {b : Nat} {t : TypeId} {cs : List AV} (hi : own[i]? = some (.box b t cs)) (hj : cs[j]? = some AV.nils) (hG : ∀ b, G b → b ∈ own.filterMap Own.blk)
    (k : RetOkG P G n fn ⟨own.set i (.box b t (cs.set j (AV.list sz []))), env⟩ ok O V) : RetOkG P G n fn ⟨own, env⟩ ok O V := fun w0 R0 R a w hs => by
  have hle : Le G n ⟨own, env⟩ ⟨own.set i (.box b t (cs.set j (AV.list sz []))), env⟩ := s4 [] i (.box b t (cs.set j (AV.list sz []))) rfl hi ⟨rfl, rfl, AM4 j hj⟩ hG
  obtain ⟨R1, h1, h2⟩ := hle w0 R0 R a w hs
  obtain ⟨x, v, R2, g0, g1, g2, g3, g4⟩ := k w0 R0 R1 a w h2
  exact ⟨x, v, R2, g0, g1, g2, h1.trans g3, g4⟩
theorem AQ7 {y : AV} (i j sz : Nat) {b : Nat} {t : TypeId} {cs : List AV} (hi : own[i]? = some (.box b t cs)) (hj : cs[j]? = some AV.nils)
    (k : RetOk P (fun _ => False) n fn ⟨own.set i (.box b t (cs.set j (AV.list sz []))), env⟩ y) : RetOk P (fun _ => False) n fn ⟨own, env⟩ y := fun w0 R0 R a w hs => by
  have hle : Le (fun _ => False) n ⟨own, env⟩ ⟨own.set i (.box b t (cs.set j (AV.list sz []))), env⟩ := s4 [] i (.box b t (cs.set j (AV.list sz []))) rfl hi ⟨rfl, rfl, AM4 j hj⟩ Ae2
  obtain ⟨R1, h1, h2⟩ := hle w0 R0 R a w hs
  obtain ⟨v, R2, h3, h4, h5, h6⟩ := k w0 R0 R1 a w h2
  exact ⟨v, R2, h3, h4, h1.trans h5, h6⟩
end
end Go.AV

set_option maxHeartbeats 1000000
namespace Go.M
open Go.AV
theorem Ae8 {h : THeld} : ∀ {l : List THeld} {p : Nat}, p ≤ l.length → (∀ i x, i < p → l[i]? = some x → x.Txn ≤ h.Txn) → (∀ x, l[p]? = some x → h.Txn < x.Txn) → insH h l = l.take p ++ h :: l.drop p
  | [], p, hp, _, _ => by simp at hp; subst hp; rfl
  | g :: l, 0, _, _, h2 => by unfold insH; rw [if_pos (h2 g rfl)]; rfl
  | g :: l, p + 1, hp, h1, h2 => by
    unfold insH
    rw [if_neg (by have := h1 0 g (by omega) rfl; omega), Ae8 (by simpa using hp) (fun i x hi hx => h1 (i + 1) x (by omega) (by simpa using hx)) (fun x hx => h2 x (by simpa using hx))]
    rfl
theorem Ae9 {h : TTold} : ∀ {l : List TTold} {p : Nat}, p ≤ l.length → (∀ i x, i < p → l[i]? = some x → x.Txn ≤ h.Txn) → (∀ x, l[p]? = some x → h.Txn < x.Txn) → insT h l = l.take p ++ h :: l.drop p
  | [], p, hp, _, _ => by simp at hp; subst hp; rfl
  | g :: l, 0, _, _, h2 => by unfold insT; rw [if_pos (h2 g rfl)]; rfl
  | g :: l, p + 1, hp, h1, h2 => by
    unfold insT
    rw [if_neg (by have := h1 0 g (by omega) rfl; omega), Ae9 (by simpa using hp) (fun i x hi hx => h1 (i + 1) x (by omega) (by simpa using hx)) (fun x hx => h2 x (by simpa using hx))]
    rfl
def THeld.ocs (h : THeld) (x : Value × Value) : List AV := [AV.int h.Txn, AV.int h.Time, AV.int h.Lead, AV.is x.1, AV.is x.2]
def TState.ocs (s : TState) (x : Value × Value) : List AV := [AV.int s.Floor, AV.list 2 (s.Cells.map TCell.cs), AV.is x.1, AV.is x.2]
end Go.M
namespace Go.Proofs.YtkegepoihkhihaaGreat
open Go Go.AV Go.M
def THeld.ow (h : THeld) (x : Value × Value) : List Own := [.arr x.1 9 1 (h.Reads.map fun k => [AV.str k]), .arr x.2 101 3 (h.Writes.map TWrite.cs)]
def TState.ow (s : TState) (x : Value × Value) : List Own := [.arr x.1 141 5 (s.Held.map THeld.cs), .arr x.2 144 3 (s.Told.map TTold.cs)]
theorem THeld.lc (h : THeld) (x : Value × Value) : LendC (THeld.ow h x) (THeld.ocs h x) h.cs :=
  H2 M4 (H2 M4 (H2 M4 (H2 (N1 (G4 (i := 0) rfl) J4) (H2 (N1 (G4 (i := 1) rfl) J4) V4))))
theorem TState.lc (s : TState) (x : Value × Value) : LendC (TState.ow s x) (TState.ocs s x) s.cs :=
  H2 M4 (H2 M4 (H2 (N1 (G4 (i := 0) rfl) J4) (H2 (N1 (G4 (i := 1) rfl) J4) V4)))
attribute [local irreducible] OpW OpA OpS AWP FSpec ESpec GSpec OpE RetOk RetOkG RvDen Le Ev GuardIs SrcIs Int.tmod Int.tdiv IntKind.wrap
end Go.Proofs.YtkegepoihkhihaaGreat

namespace Go.M
open Go.AV
def settled (s : TState) : Int := s.Held.foldl (fun o h => min o (h.Time - 1)) s.Floor
theorem AM5 {x : Int} : ∀ {l : List THeld} {o : Int}, x ≤ l.foldl (fun o h => min o (h.Time - 1)) o ↔ x ≤ o ∧ ∀ h ∈ l, x ≤ h.Time - 1
  | [], o => by simp
  | h :: l, o => by
    rw [List.foldl_cons, AM5]
    constructor
    · rintro ⟨a, b⟩
      refine ⟨by omega, fun k hk => ?_⟩
      rcases List.mem_cons.1 hk with rfl | hk
      · omega
      · exact b k hk
    · rintro ⟨a, b⟩
      have := b h List.mem_cons_self
      exact ⟨by omega, fun k hk => b k (List.mem_cons_of_mem _ hk)⟩
theorem Aq3 {s : TState} {x : Int} : x ≤ settled s ↔ x ≤ s.Floor ∧ ∀ h ∈ s.Held, x ≤ h.Time - 1 := AM5
structure Keeps (s s' : TState) : Prop where
  floor : s.Floor ≤ s'.Floor
  told : ∀ t ∈ s.Told, t ∈ s'.Told
  tlen : s.Told.length ≤ s'.Told.length
  settled : settled s ≤ settled s'
  cells : ∀ a, a ≤ M.settled s → cellsAt s'.Cells a = cellsAt s.Cells a
theorem Keeps.refl (s : TState) : Keeps s s := ⟨Int.le_refl _, fun _ h => h, Nat.le_refl _, Int.le_refl _, fun _ _ => rfl⟩
theorem Keeps.trans {a b c : TState} (h : Keeps a b) (k : Keeps b c) : Keeps a c :=
  ⟨Int.le_trans h.floor k.floor, fun t ht => k.told t (h.told t ht), Nat.le_trans h.tlen k.tlen, Int.le_trans h.settled k.settled, fun x hx => (k.cells x (Int.le_trans hx h.settled)).trans (h.cells x hx)⟩
theorem AZ9 {s : TState} (g : GS s) : 0 ≤ settled s := Aq3.2 ⟨g.floor.1, fun h hm => by
  have := (g.good h hm).1
  unfold goodRec hRec at this
  rw [if_pos rfl] at this
  unfold good1 isTime within at this
  simp only [Bool.and_eq_true, decide_eq_true_eq] at this
  omega⟩
end Go.M

namespace Go.M
open Go.AV
def stateOfR (l : List TRec) : TState × List Bool × Bool := if l.length ≤ 60 ∧ l.all goodRec = true then (stFrom zState l, didFrom zState l, true) else (zState, [], false)
theorem u4 {s : TState} {l : List TRec} {i : Nat} {r : TRec} (h : l[i]? = some r) : stFrom s (l.take (i + 1)) = stepS (stFrom s (l.take i)) r := by
  unfold stFrom
  rw [List.take_add_one, h, List.foldl_append]; rfl
theorem AF8 : ∀ {l : List TRec} {s : TState} {r : TRec}, didFrom s (l ++ [r]) = didFrom s l ++ [(applyS (stFrom s l) r).2]
  | [], s, r => rfl
  | x :: l, s, r => by
    show _ :: didFrom (stepS s x) (l ++ [r]) = _
    rw [AF8]; rfl
theorem q7 {s : TState} {l : List TRec} {i : Nat} {r : TRec} (h : l[i]? = some r) : didFrom s (l.take (i + 1)) = didFrom s (l.take i) ++ [(applyS (stFrom s (l.take i)) r).2] := by
  rw [List.take_add_one, h]; exact AF8
def phi (s : TState) : Nat := sizeL TCell.size s.Cells + 3 * sizeL THeld.size s.Held + s.Told.length
theorem AI1 (s : TState) : s.size ≤ phi s := by
  have h1 : s.size = sizeL TCell.size s.Cells + sizeL THeld.size s.Held + s.Told.length := rfl
  unfold phi; omega
theorem Aw5 {α : Type} {f : α → Nat} {a b : List α} (h : a.Perm b) : sizeL f a = sizeL f b := by
  unfold sizeL; rw [h.length_eq, (h.map f).sum_nat]
theorem Am5 {t : Int} : ∀ {w : List TWrite} {l q : List TCell}, putAll l w t = some q → sizeL TCell.size q ≤ sizeL TCell.size l + 2 * sizeL TWrite.size w
  | [], l, q, h => by simp [putAll] at h; subst h; omega
  | x :: w, l, q, h => by
    unfold putAll at h
    split at h
    · cases h
    · have h1 := Am5 h
      have h2 := p8 l x t
      rw [N7]; omega
theorem Aw6 {l : List THeld} {n : Int} {h : THeld} (hf : findH l n = some h) : sizeL THeld.size (lessH l n) + (1 + h.size) ≤ sizeL THeld.size l := by
  induction l with
  | nil => simp [findH] at hf
  | cons g l ih =>
    unfold findH at hf ih
    rw [List.find?_cons] at hf
    unfold lessH at ih ⊢
    by_cases e : g.Txn = n
    · rw [beq_iff_eq.2 e] at hf
      injection hf with hf; subst hf
      rw [List.filter_cons_of_neg (by simp [e]), N7]
      have : sizeL THeld.size (l.filter fun h => h.Txn != n) ≤ sizeL THeld.size l := by
        clear ih
        induction l with
        | nil => exact Nat.le_refl _
        | cons y l ih =>
          rw [List.filter_cons]
          split
          · rw [N7, N7]; omega
          · rw [N7]; omega
      omega
    · rw [beq_eq_false_iff_ne.2 e] at hf
      rw [List.filter_cons_of_pos (by simp [e]), N7, N7]
      have := ih hf; omega
theorem AE9 (l : List THeld) (n : Int) : sizeL THeld.size (lessH l n) ≤ sizeL THeld.size l := by
  induction l with
  | nil => exact Nat.le_refl _
  | cons y l ih =>
    unfold lessH at ih ⊢
    rw [List.filter_cons]
    split
    · rw [N7, N7]; omega
    · rw [N7]; omega
theorem BA7 (s : TState) (r : TRec) : phi (applyS s r).1 ≤ phi s + 3 * (1 + r.size) + 1 := by
  have hh : (hOf r).size = r.size := rfl
  have hins : sizeL THeld.size (insH (hOf r) s.Held) = 1 + r.size + sizeL THeld.size s.Held := by rw [Aw5 (AL6 _ _), N7, hh]
  have htl : ∀ t : TTold, (insT t s.Told).length = s.Told.length + 1 := fun t => by rw [(AL7 _ _).length_eq]; rfl
  have h2 := AE9 s.Held r.Txn
  unfold applyS
  split
  · unfold phi; dsimp only; omega
  · split
    · dsimp only; omega
    · split
      · unfold phi; dsimp only; rw [hins]; omega
      · split
        · cases hf : findH s.Held r.Txn with
          | none => dsimp only; omega
          | some h =>
            dsimp only
            split
            · dsimp only; omega
            · split
              · rename_i hp
                have h3 := Am5 (At0 hp).1
                have h4 := Aw6 hf
                have h5 : h.size = sizeL (fun x => x.length) h.Reads + sizeL TWrite.size h.Writes := rfl
                unfold doneS phi; dsimp only; rw [htl]; omega
              · dsimp only; omega
        · unfold doneS phi; dsimp only; rw [htl]; omega
theorem phi_step (s : TState) (r : TRec) : phi (stepS s r) ≤ phi s + 3 * (1 + r.size) + 1 := by
  unfold stepS
  split
  · exact BA7 s r
  · omega
theorem AB8 {m : Nat} : ∀ {l : List TRec} {s : TState}, (∀ r ∈ l, r.size ≤ m) → phi (stFrom s l) ≤ phi s + l.length * (3 * (1 + m) + 1)
  | [], s, _ => by simp [stFrom]
  | r :: l, s, h => by
    have h1 := phi_step s r
    have h2 := AB8 (l := l) (s := stepS s r) fun x hx => h x (List.mem_cons_of_mem _ hx)
    have h3 := h r List.mem_cons_self
    have h4 : stFrom s (r :: l) = stFrom (stepS s r) l := rfl
    rw [h4, J3, Nat.add_mul, Nat.one_mul]
    omega
theorem Ah6 {r : TRec} (h : goodRec r = true) : r.size ≤ 400 := by
  have g := goodR h
  have h1 : sizeL (fun x : Str => x.length) r.Reads ≤ r.Reads.length * 13 := AD2 fun x hx => AV1 (g.reads.2 x hx)
  have h2 : sizeL TWrite.size r.Writes ≤ r.Writes.length * 37 := AD2 (f := TWrite.size) fun x hx => by
    have := g.writes.2 x hx
    have k1 := AV1 this.1
    have k2 := Au9 this.2.1
    show x.Key.length + x.Val.length ≤ 36
    omega
  have h3 : r.size = sizeL (fun x : Str => x.length) r.Reads + sizeL TWrite.size r.Writes := rfl
  have := g.reads.1
  have := g.writes.1
  omega
def zTold : TTold := ⟨0, false, 0⟩
def zHeld : THeld := ⟨0, 0, 0, [], []⟩
def settledR (s : TState) : Int × Bool := if goodState s = true then (settled s, true) else (0, false)
theorem Aw7 {l : List TTold} {n : Int} : findT l n = none ↔ hasT l n = false := by
  unfold findT hasT; rw [List.find?_eq_none, List.any_eq_false]
theorem AM6 {l : List THeld} {i : Nat} {h : THeld} {o : Int} (hx : l[i]? = some h) : (l.take (i + 1)).foldl (fun o h => min o (h.Time - 1)) o = (if h.Time - 1 < (l.take i).foldl (fun o h => min o (h.Time - 1)) o then h.Time - 1 else (l.take i).foldl (fun o h => min o (h.Time - 1)) o) := by
  rw [List.take_add_one, hx, List.foldl_append]
  show min _ (h.Time - 1) = _
  split <;> omega
theorem AI2 {s : TState} (g : GS s) {h : THeld} (hm : h ∈ s.Held) : 1 ≤ h.Time ∧ h.Time ≤ 100000 ∧ adj wLess h.Writes = true := by
  obtain ⟨g1, g2, g3⟩ := g.good h hm
  have h1 := g1
  unfold goodRec hRec at h1
  rw [if_pos rfl] at h1
  unfold good1 isTime within at h1
  simp only [Bool.and_eq_true, decide_eq_true_eq] at h1
  exact ⟨by omega, by omega, AT1 g1⟩
end Go.M
namespace Go.Proofs.YtkegepoihkhihaaGreat
open Go Go.AV Go.M
attribute [local irreducible] OpW OpA OpS AWP FSpec ESpec GSpec OpE RetOk RetOkG RvDen Le Ev GuardIs SrcIs Int.tmod Int.tdiv IntKind.wrap
end Go.Proofs.YtkegepoihkhihaaGreat

namespace Go.M
open Go.AV
end Go.M
namespace Go.Proofs.YtkegepoihkhihaaGreat
open Go Go.AV Go.M
attribute [local irreducible] OpW OpA OpS AWP FSpec ESpec GSpec OpE RetOk RetOkG RvDen Le Ev GuardIs SrcIs Int.tmod Int.tdiv IntKind.wrap
theorem Am6 (s : TState) (hg : goodState s = true) : FSpec Tryz.prog 85 [AV.agg s.cs] (AV.int (settled s)) := by
 have g := m8.1 hg
 have hhl := g.hlen
 refine E5 Tryz.func85 rfl Tryz.ntmps85 rfl ?_
 refine A3 (A2 ?_)
 refine N8 rfl rfl rfl rfl (A0 rfl) ?_
 intro b1
 refine A1 rfl (B7 rfl B6) ?_
 refine A4 (A3 (A2 ?_))
 refine A1 rfl (B1 0 rfl C0 rfl B3 (A0 rfl) rfl) ?_
 refine A1 rfl (B0 0 rfl (A0 rfl) rfl B9 rfl) ?_
 refine B5 rfl ?_
 refine A4 (A3 (A3 (A2 ?_)))
 refine A1 rfl (B1 2 rfl C0 rfl G2 (A0 rfl) rfl) ?_
 refine A1 rfl (B0 0 rfl (A0 rfl) rfl L3 rfl) ?_
 refine A1 rfl (G9 rfl E1 (A0 rfl)) ?_
 refine A1 rfl (C1 rfl B6) ?_
 refine A4 (C8 ?_)
 refine J1 [(2, _), (9, _), (10, _)] _ (fun (i : Nat) => i ≤ s.Held.length) (fun (i : Nat) => []) (fun (i : Nat) => [(3, AV.int ((s.Held.take i).foldl (fun o h => min o (h.Time - 1)) s.Floor)), (11, AV.int i)]) (fun (i : Nat) => s.Held.length - i) (0) ?_ (K0 ⟨rfl, rfl, rfl, rfl, rfl, trivial⟩) ?_
 ·exact Nat.zero_le _
 intro i hinv
 refine A3 (A2 ?_)
 refine A1 rfl (J6 rfl (A0 rfl) (A0 rfl)) ?_
 refine A4 (A3 ?_)
 refine C4 (A0 rfl) ?_ ?_
 ·intro h12
  have k12 := of_decide_eq_true h12; try simp only [A8] at k12
  have hlt : i < s.Held.length := by omega
  obtain ⟨h, hx⟩ := get_some hlt
  obtain ⟨q1, q2, q3⟩ := AI2 g (G4 hx)
  refine C7 (A3 (C8 (A3 (A2 ?_))))
  refine A1 rfl (I9 rfl E1 D4 (A0 rfl) (A0 rfl) hx (by first | omega | (simp only [D3, A9, szR] at *; omega))) ?_
  refine A1 rfl (K6 rfl (A0 rfl) I6 D4) ?_
  refine F9 rfl rfl rfl rfl Tryz.zeroValue141 rfl ?_
  intro b5
  refine D6 0 rfl rfl rfl (A0 rfl) (A0 rfl) (E7 _) rfl D4 rfl ?_
  refine A4 (A2 ?_)
  refine A5 rfl ?_
  refine A1 rfl (B1 1 rfl F1 rfl B3 (A0 rfl) rfl) ?_
  refine A1 rfl (B0 0 rfl (A0 rfl) rfl B9 rfl) ?_
  refine A1 rfl (Q3 rfl (A0 rfl) B6 (by first | omega | (simp only [D3, A9, szR] at *; omega))) ?_
  refine A1 rfl (w_min rfl (A0 rfl) (A0 rfl)) ?_
  refine B5 rfl ?_
  refine A4 (A2 ?_)
  refine A1 rfl (G8 rfl (A0 rfl) B6 (by first | omega | (simp only [D3, A9, szR] at *; omega))) ?_
  refine A5 rfl ?_
  refine A4 ?_
  refine L4 i (i + 1) ?_ ?_ (U3 1 ⟨congrArg (fun z => some (AV.int z)) (AM6 hx).symm, rfl, rfl, rfl, rfl, trivial⟩)
  ·omega
  omega
 intro h12
 have k12 := of_decide_eq_false h12; try simp only [A8] at k12
 have hge : s.Held.length ≤ i := by omega
 rw [List.take_of_length_le hge]
 refine G6 ?_
 refine A3 (A2 ?_)
 refine A5 rfl ?_
 refine B5 rfl ?_
 refine A4 ?_
 refine C5 ?_
 exact H5 rfl (C3 rfl (by rfl))
end Go.Proofs.YtkegepoihkhihaaGreat

namespace Go.Proofs.YtkegepoihkhihaaGreat
open Go Go.AV Go.M
attribute [local irreducible] OpW OpA OpS AWP FSpec ESpec GSpec OpE RetOk RetOkG RvDen Le Ev GuardIs SrcIs Int.tmod Int.tdiv IntKind.wrap
theorem AA0 (l : List Str) (hl : l.length ≤ 4194304) : GSpec Tryz.prog 202 [strs l] [] (fun _ : Value => True) (fun v => [.arr v 9 1 (l.map fun s => [AV.str s])]) (fun v => AV.is v) := by
 refine J9 Tryz.func202 rfl Tryz.ntmps202 rfl ?_
 refine A3 (A2 ?_)
 refine A1 rfl (B7 rfl O7) ?_
 refine A4 (A3 (A2 ?_))
 refine R7 rfl rfl rfl rfl E3 E8 ?_
 intro v3
 refine A5 rfl ?_
 refine M0 (by' := 16) 0 rfl rfl rfl rfl E3 Tryz.type9 rfl rfl rfl rfl rfl rfl (A0 rfl) (A0 rfl) rfl (by simp only [L6, A8]; omega) ?_
 intro v5_1
 refine B5 rfl ?_
 refine A4 ?_
 refine C5 ?_
 exact N5 [0] v5_1 (trivial) rfl (by rfl) (S1 rfl (C3 rfl (by rfl)))
theorem AI3 (v : Value) (l : List Str) (s : Str) (hs : SrtS l) (hl : l.length ≤ 1000000) : GSpec Tryz.prog 169 [AV.is v, AV.str s] [.arr v 9 1 (l.map fun s => [AV.str s])] (fun _ : Value => True) (fun v' => [.arr v' 9 1 ((putS l s).map fun s => [AV.str s])]) (fun v' => AV.is v') := by
 refine J9 Tryz.func169 rfl Tryz.ntmps169 rfl ?_
 refine A3 (A2 ?_)
 refine A1 rfl (B7 rfl O7) ?_
 refine A4 (A3 (A2 ?_))
 refine A5 rfl ?_
 refine A1 rfl (W1 0 rfl E3 (A0 rfl) rfl) ?_
 refine B5 rfl ?_
 refine A4 (A3 (C8 ?_))
 refine J1 [(0, _), (1, _), (4, _)] _ (fun (k : Nat) => k ≤ l.length ∧ ∀ i y, k ≤ i → l[i]? = some y → Op.bytesLess s y = true) (fun (k : Nat) => []) (fun (k : Nat) => [(5, AV.int k)]) (fun (k : Nat) => k) (l.length) ?_ (K0 ⟨congrArg (fun z => some (AV.int z)) (by rw [A8]), rfl, rfl, rfl, trivial⟩) ?_
 ·exact ⟨Nat.le_refl _, fun i y h1 h2 => by (have := (List.getElem?_eq_some_iff.1 h2).1; omega)⟩
 intro k hinv
 obtain ⟨y, hy0⟩ : ∃ y, 0 < k → l[k - 1]? = some y := by (by_cases h9 : 0 < k; (have h8 := hinv.1; exact ⟨_, fun _ => List.getElem?_eq_getElem (show k - 1 < l.length by omega)⟩); exact ⟨[], fun h8 => absurd h8 h9⟩)
 refine A3 (A3 (A2 ?_))
 refine A5 rfl ?_
 refine A1 rfl (O5 rfl (A0 rfl) B6) ?_
 refine A5 rfl ?_
 refine C9 rfl (fun hc => C1 rfl (A0 rfl)) ?_
 refine C9 rfl (fun hc => C1 rfl (A0 rfl)) ?_
 refine C9 rfl (fun hc => Q3 rfl (A6 rfl hc) B6 (by first | omega | ((try simp only [D3, A9, szR] at *); omega) | (have hc2 := hc; simp only [P3, beq_iff_eq, bne_iff_ne, A8, F0] at hc2; omega))) ?_
 refine C9 rfl (fun hc => W5 0 rfl E3 E8 (A6 rfl hc) rfl (A6 rfl hc) (by have := of_decide_eq_true hc; omega) (by have := of_decide_eq_true hc; have := hinv.1; simp only [A8]; omega)) ?_
 refine C9 rfl (fun hc => n0 0 rfl (A6 rfl hc) rfl G5 (AB7 (hy0 (by have := of_decide_eq_true hc; omega)) (by have := of_decide_eq_true hc; omega))) ?_
 refine C9 rfl (fun hc => C1 rfl (A0 rfl)) ?_
 refine C9 rfl (fun hc => Aj5 rfl (A6 rfl hc) (A6 rfl hc)) ?_
 refine A1 rfl (H6 rfl (A0 rfl) (F6 rfl)) ?_
 refine A4 ?_
 refine C4 (A0 rfl) ?_ ?_
 ·intro h19
  have hkt : 0 < k ∧ Op.bytesLess s y = true := by (rw [As7] at h19; simpa using h19)
  refine C7 (C8 (A2 ?_))
  refine A5 rfl ?_
  refine A1 rfl (Q3 rfl (A0 rfl) B6 (by first | omega | (simp only [D3, A9, szR] at *; omega))) ?_
  refine B5 rfl ?_
  refine A4 ?_
  refine i8 ?_
  refine L4 k (k - 1) ?_ ?_ (K0 ⟨congrArg (fun z => some (AV.int z)) (by omega), rfl, rfl, rfl, trivial⟩)
  ·exact ⟨by omega, fun i z hi hz => if e : k ≤ i then hinv.2 i z e hz else (by have e2 : i = k - 1 := (by omega); subst e2; rw [hy0 hkt.1] at hz; injection hz with hz; subst hz; exact hkt.2)⟩
  omega
 intro h19
 have hng : 0 < k → Op.bytesLess s y = false := fun h => by (rw [As7] at h19; simpa [h] using h19)
 refine G6 ?_
 refine A3 (A3 (A2 ?_))
 refine A5 rfl ?_
 refine A1 rfl (O5 rfl (A0 rfl) B6) ?_
 refine A5 rfl ?_
 refine C9 rfl (fun hc => C1 rfl (A0 rfl)) ?_
 refine C9 rfl (fun hc => C1 rfl (A0 rfl)) ?_
 refine C9 rfl (fun hc => Q3 rfl (A6 rfl hc) B6 (by first | omega | ((try simp only [D3, A9, szR] at *); omega) | (have hc2 := hc; simp only [P3, beq_iff_eq, bne_iff_ne, A8, F0] at hc2; omega))) ?_
 refine C9 rfl (fun hc => W5 0 rfl E3 E8 (A6 rfl hc) rfl (A6 rfl hc) (by have := of_decide_eq_true hc; omega) (by have := of_decide_eq_true hc; have := hinv.1; simp only [A8]; omega)) ?_
 refine C9 rfl (fun hc => n0 0 rfl (A6 rfl hc) rfl G5 (AB7 (hy0 (by have := of_decide_eq_true hc; omega)) (by have := of_decide_eq_true hc; omega))) ?_
 refine C9 rfl (fun hc => C1 rfl (A0 rfl)) ?_
 refine C9 rfl (fun hc => u9 rfl (A6 rfl hc) (A6 rfl hc)) ?_
 refine A1 rfl (H6 rfl (A0 rfl) (F6 rfl)) ?_
 refine A4 ?_
 refine C4 (A0 rfl) ?_ ?_
 ·intro h32
  have hke : 0 < k ∧ y = s := by simpa using h32
  rw [AV2 hs (by rw [← hke.2]; exact hy0 hke.1)]
  refine A3 (A2 ?_)
  refine A5 rfl ?_
  refine B5 rfl ?_
  refine A4 ?_
  refine C5 ?_
  exact N5 [0] v (trivial) rfl (by first | rfl | exact congrArg (fun z => [Own.arr _ 9 1 z]) (by show List.map (fun s => [AV.str s]) (l.take k ++ s :: l.drop k) = (List.map (fun s => [AV.str s]) (l.take k) ++ [[AV.str s]]) ++ List.map (fun s => [AV.str s]) (l.drop k); simp)) (S1 rfl (C3 rfl (by rfl)))
 intro h32
 have hne : 0 < k → y ≠ s := fun h e => by simp [h, e] at h32
 rw [Ac7 hs hinv.1 hinv.2 (fun z hz hzz => by rw [hy0 hz] at hzz; injection hzz with hzz; subst hzz; exact ⟨hng hz, hne hz⟩)]
 refine C7 (A3 (A2 ?_))
 refine A5 rfl ?_
 refine A5 rfl ?_
 refine A1 rfl (Ai8 0 rfl E3 E8 (A0 rfl) rfl (A0 rfl) (by omega) (by simp only [A8]; omega)) ?_
 refine AC8 [] rfl rfl rfl rfl Tryz.call202 rfl (AA0 (l.drop k) (by rw [List.length_drop]; omega)) rfl (Q4 (AK5 (A0 rfl) (lt_tailm (G4 (i := 0) rfl) (by omega) (by omega))) X3) (by first | exact K3 | (intro _; exact K3) | (intro _; first | exact E6 _ | exact D5 _ _ | exact D0 _ | exact D8 _ | exact D7) | (intro _; refine Y7 ?_; (repeat (first | exact D1 | (refine B8 (by first | (first | exact E6 _ | exact D5 _ _ | exact D0 _ | exact D8 _ | exact D7) | (refine S5 ?_; (repeat (first | exact D1 | (refine B8 (by first | exact E6 _ | exact D5 _ _ | exact D0 _ | exact D8 _ | exact D7) ?_))))) ?_))); done) | (intro _; refine S5 ?_; (repeat (first | exact D1 | (refine B8 (by first | exact E6 _ | exact D5 _ _ | exact D0 _ | exact D8 _ | exact D7) ?_))); done) | ((repeat (first | exact K3 | (refine J2 (Q5 ?_) ?_; (repeat (first | exact D1 | (refine B8 (by first | exact E6 _ | exact D5 _ _ | exact D0 _ | exact D8 _ | exact D7) ?_)))) | (refine J2 (Q6 ?_) ?_; (repeat (first | exact Q7 | (refine Q9 (fun _ => ?_); (first | exact TWrite.flat _ | exact TFeedItem.flat _ | exact TIdx.flat _ | exact TVer.flat _ | (repeat (first | exact D1 | (refine B8 (by first | exact E6 _ | exact D5 _ _ | exact D0 _ | exact D8 _ | exact D7) ?_))))) | (refine R4 ?_; (first | exact TWrite.flat _ | exact TFeedItem.flat _ | exact TIdx.flat _ | exact TVer.flat _ | (repeat (first | exact D1 | (refine B8 (by first | exact E6 _ | exact D5 _ _ | exact D0 _ | exact D8 _ | exact D7) ?_))))) | (refine P9 ?_ ?_; (first | exact TWrite.flat _ | exact TFeedItem.flat _ | exact TIdx.flat _ | exact TVer.flat _ | (repeat (first | exact D1 | (refine B8 (by first | exact E6 _ | exact D5 _ _ | exact D0 _ | exact D8 _ | exact D7) ?_))))) | refine Q8 ?_ ?_))))); done) | (intro _; (repeat (first | exact K3 | (refine J2 (Q5 ?_) ?_; (repeat (first | exact D1 | (refine B8 (by first | exact E6 _ | exact D5 _ _ | exact D0 _ | exact D8 _ | exact D7) ?_)))) | (refine J2 (Q6 ?_) ?_; (repeat (first | exact Q7 | (refine Q9 (fun _ => ?_); (first | exact TWrite.flat _ | exact TFeedItem.flat _ | exact TIdx.flat _ | exact TVer.flat _ | (repeat (first | exact D1 | (refine B8 (by first | exact E6 _ | exact D5 _ _ | exact D0 _ | exact D8 _ | exact D7) ?_))))) | (refine R4 ?_; (first | exact TWrite.flat _ | exact TFeedItem.flat _ | exact TIdx.flat _ | exact TVer.flat _ | (repeat (first | exact D1 | (refine B8 (by first | exact E6 _ | exact D5 _ _ | exact D0 _ | exact D8 _ | exact D7) ?_))))) | (refine P9 ?_ ?_; (first | exact TWrite.flat _ | exact TFeedItem.flat _ | exact TIdx.flat _ | exact TVer.flat _ | (repeat (first | exact D1 | (refine B8 (by first | exact E6 _ | exact D5 _ _ | exact D0 _ | exact D8 _ | exact D7) ?_))))) | refine Q8 ?_ ?_))))); done)) (by first | exact K3 | (intro _; exact K3) | (intro _; first | exact E6 _ | exact D5 _ _ | exact D0 _ | exact D8 _ | exact D7) | (intro _; refine Y7 ?_; (repeat (first | exact D1 | (refine B8 (by first | (first | exact E6 _ | exact D5 _ _ | exact D0 _ | exact D8 _ | exact D7) | (refine S5 ?_; (repeat (first | exact D1 | (refine B8 (by first | exact E6 _ | exact D5 _ _ | exact D0 _ | exact D8 _ | exact D7) ?_))))) ?_))); done) | (intro _; refine S5 ?_; (repeat (first | exact D1 | (refine B8 (by first | exact E6 _ | exact D5 _ _ | exact D0 _ | exact D8 _ | exact D7) ?_))); done) | ((repeat (first | exact K3 | (refine J2 (Q5 ?_) ?_; (repeat (first | exact D1 | (refine B8 (by first | exact E6 _ | exact D5 _ _ | exact D0 _ | exact D8 _ | exact D7) ?_)))) | (refine J2 (Q6 ?_) ?_; (repeat (first | exact Q7 | (refine Q9 (fun _ => ?_); (first | exact TWrite.flat _ | exact TFeedItem.flat _ | exact TIdx.flat _ | exact TVer.flat _ | (repeat (first | exact D1 | (refine B8 (by first | exact E6 _ | exact D5 _ _ | exact D0 _ | exact D8 _ | exact D7) ?_))))) | (refine R4 ?_; (first | exact TWrite.flat _ | exact TFeedItem.flat _ | exact TIdx.flat _ | exact TVer.flat _ | (repeat (first | exact D1 | (refine B8 (by first | exact E6 _ | exact D5 _ _ | exact D0 _ | exact D8 _ | exact D7) ?_))))) | (refine P9 ?_ ?_; (first | exact TWrite.flat _ | exact TFeedItem.flat _ | exact TIdx.flat _ | exact TVer.flat _ | (repeat (first | exact D1 | (refine B8 (by first | exact E6 _ | exact D5 _ _ | exact D0 _ | exact D8 _ | exact D7) ?_))))) | refine Q8 ?_ ?_))))); done) | (intro _; (repeat (first | exact K3 | (refine J2 (Q5 ?_) ?_; (repeat (first | exact D1 | (refine B8 (by first | exact E6 _ | exact D5 _ _ | exact D0 _ | exact D8 _ | exact D7) ?_)))) | (refine J2 (Q6 ?_) ?_; (repeat (first | exact Q7 | (refine Q9 (fun _ => ?_); (first | exact TWrite.flat _ | exact TFeedItem.flat _ | exact TIdx.flat _ | exact TVer.flat _ | (repeat (first | exact D1 | (refine B8 (by first | exact E6 _ | exact D5 _ _ | exact D0 _ | exact D8 _ | exact D7) ?_))))) | (refine R4 ?_; (first | exact TWrite.flat _ | exact TFeedItem.flat _ | exact TIdx.flat _ | exact TVer.flat _ | (repeat (first | exact D1 | (refine B8 (by first | exact E6 _ | exact D5 _ _ | exact D0 _ | exact D8 _ | exact D7) ?_))))) | (refine P9 ?_ ?_; (first | exact TWrite.flat _ | exact TFeedItem.flat _ | exact TIdx.flat _ | exact TVer.flat _ | (repeat (first | exact D1 | (refine B8 (by first | exact E6 _ | exact D5 _ _ | exact D0 _ | exact D8 _ | exact D7) ?_))))) | refine Q8 ?_ ?_))))); done)) (by first | exact K3 | (intro _; exact K3) | (intro _; first | exact E6 _ | exact D5 _ _ | exact D0 _ | exact D8 _ | exact D7) | (intro _; refine Y7 ?_; (repeat (first | exact D1 | (refine B8 (by first | (first | exact E6 _ | exact D5 _ _ | exact D0 _ | exact D8 _ | exact D7) | (refine S5 ?_; (repeat (first | exact D1 | (refine B8 (by first | exact E6 _ | exact D5 _ _ | exact D0 _ | exact D8 _ | exact D7) ?_))))) ?_))); done) | (intro _; refine S5 ?_; (repeat (first | exact D1 | (refine B8 (by first | exact E6 _ | exact D5 _ _ | exact D0 _ | exact D8 _ | exact D7) ?_))); done) | ((repeat (first | exact K3 | (refine J2 (Q5 ?_) ?_; (repeat (first | exact D1 | (refine B8 (by first | exact E6 _ | exact D5 _ _ | exact D0 _ | exact D8 _ | exact D7) ?_)))) | (refine J2 (Q6 ?_) ?_; (repeat (first | exact Q7 | (refine Q9 (fun _ => ?_); (first | exact TWrite.flat _ | exact TFeedItem.flat _ | exact TIdx.flat _ | exact TVer.flat _ | (repeat (first | exact D1 | (refine B8 (by first | exact E6 _ | exact D5 _ _ | exact D0 _ | exact D8 _ | exact D7) ?_))))) | (refine R4 ?_; (first | exact TWrite.flat _ | exact TFeedItem.flat _ | exact TIdx.flat _ | exact TVer.flat _ | (repeat (first | exact D1 | (refine B8 (by first | exact E6 _ | exact D5 _ _ | exact D0 _ | exact D8 _ | exact D7) ?_))))) | (refine P9 ?_ ?_; (first | exact TWrite.flat _ | exact TFeedItem.flat _ | exact TIdx.flat _ | exact TVer.flat _ | (repeat (first | exact D1 | (refine B8 (by first | exact E6 _ | exact D5 _ _ | exact D0 _ | exact D8 _ | exact D7) ?_))))) | refine Q8 ?_ ?_))))); done) | (intro _; (repeat (first | exact K3 | (refine J2 (Q5 ?_) ?_; (repeat (first | exact D1 | (refine B8 (by first | exact E6 _ | exact D5 _ _ | exact D0 _ | exact D8 _ | exact D7) ?_)))) | (refine J2 (Q6 ?_) ?_; (repeat (first | exact Q7 | (refine Q9 (fun _ => ?_); (first | exact TWrite.flat _ | exact TFeedItem.flat _ | exact TIdx.flat _ | exact TVer.flat _ | (repeat (first | exact D1 | (refine B8 (by first | exact E6 _ | exact D5 _ _ | exact D0 _ | exact D8 _ | exact D7) ?_))))) | (refine R4 ?_; (first | exact TWrite.flat _ | exact TFeedItem.flat _ | exact TIdx.flat _ | exact TVer.flat _ | (repeat (first | exact D1 | (refine B8 (by first | exact E6 _ | exact D5 _ _ | exact D0 _ | exact D8 _ | exact D7) ?_))))) | (refine P9 ?_ ?_; (first | exact TWrite.flat _ | exact TFeedItem.flat _ | exact TIdx.flat _ | exact TVer.flat _ | (repeat (first | exact D1 | (refine B8 (by first | exact E6 _ | exact D5 _ _ | exact D0 _ | exact D8 _ | exact D7) ?_))))) | refine Q8 ?_ ?_))))); done)) ?_
 intro x37 ok37
 refine B5 rfl ?_
 refine A4 (A3 ?_)
 refine AWP.le (Y8 [0] 6 rfl rfl (N1 (G4 (i := 0) rfl) J4) (T9 0 rfl rfl R5)) ?_
 refine A2 ?_
 refine A5 rfl ?_
 refine A5 rfl ?_
 refine sq_ahi 0 rfl rfl rfl rfl E3 E8 (A0 rfl) rfl (A0 rfl) (by omega) (by simp only [A8]; omega) ?_
 intro v40_1
 rw [Int.toNat_natCast, ← List.map_take]
 refine AC8 [] rfl rfl rfl rfl Tryz.call202 rfl (AA0 (l.take k) (by rw [F0]; omega)) rfl (Q4 (AN8 0 (A0 rfl) rfl) X3) (by first | exact K3 | (intro _; exact K3) | (intro _; first | exact E6 _ | exact D5 _ _ | exact D0 _ | exact D8 _ | exact D7) | (intro _; refine Y7 ?_; (repeat (first | exact D1 | (refine B8 (by first | (first | exact E6 _ | exact D5 _ _ | exact D0 _ | exact D8 _ | exact D7) | (refine S5 ?_; (repeat (first | exact D1 | (refine B8 (by first | exact E6 _ | exact D5 _ _ | exact D0 _ | exact D8 _ | exact D7) ?_))))) ?_))); done) | (intro _; refine S5 ?_; (repeat (first | exact D1 | (refine B8 (by first | exact E6 _ | exact D5 _ _ | exact D0 _ | exact D8 _ | exact D7) ?_))); done) | ((repeat (first | exact K3 | (refine J2 (Q5 ?_) ?_; (repeat (first | exact D1 | (refine B8 (by first | exact E6 _ | exact D5 _ _ | exact D0 _ | exact D8 _ | exact D7) ?_)))) | (refine J2 (Q6 ?_) ?_; (repeat (first | exact Q7 | (refine Q9 (fun _ => ?_); (first | exact TWrite.flat _ | exact TFeedItem.flat _ | exact TIdx.flat _ | exact TVer.flat _ | (repeat (first | exact D1 | (refine B8 (by first | exact E6 _ | exact D5 _ _ | exact D0 _ | exact D8 _ | exact D7) ?_))))) | (refine R4 ?_; (first | exact TWrite.flat _ | exact TFeedItem.flat _ | exact TIdx.flat _ | exact TVer.flat _ | (repeat (first | exact D1 | (refine B8 (by first | exact E6 _ | exact D5 _ _ | exact D0 _ | exact D8 _ | exact D7) ?_))))) | (refine P9 ?_ ?_; (first | exact TWrite.flat _ | exact TFeedItem.flat _ | exact TIdx.flat _ | exact TVer.flat _ | (repeat (first | exact D1 | (refine B8 (by first | exact E6 _ | exact D5 _ _ | exact D0 _ | exact D8 _ | exact D7) ?_))))) | refine Q8 ?_ ?_))))); done) | (intro _; (repeat (first | exact K3 | (refine J2 (Q5 ?_) ?_; (repeat (first | exact D1 | (refine B8 (by first | exact E6 _ | exact D5 _ _ | exact D0 _ | exact D8 _ | exact D7) ?_)))) | (refine J2 (Q6 ?_) ?_; (repeat (first | exact Q7 | (refine Q9 (fun _ => ?_); (first | exact TWrite.flat _ | exact TFeedItem.flat _ | exact TIdx.flat _ | exact TVer.flat _ | (repeat (first | exact D1 | (refine B8 (by first | exact E6 _ | exact D5 _ _ | exact D0 _ | exact D8 _ | exact D7) ?_))))) | (refine R4 ?_; (first | exact TWrite.flat _ | exact TFeedItem.flat _ | exact TIdx.flat _ | exact TVer.flat _ | (repeat (first | exact D1 | (refine B8 (by first | exact E6 _ | exact D5 _ _ | exact D0 _ | exact D8 _ | exact D7) ?_))))) | (refine P9 ?_ ?_; (first | exact TWrite.flat _ | exact TFeedItem.flat _ | exact TIdx.flat _ | exact TVer.flat _ | (repeat (first | exact D1 | (refine B8 (by first | exact E6 _ | exact D5 _ _ | exact D0 _ | exact D8 _ | exact D7) ?_))))) | refine Q8 ?_ ?_))))); done)) (by first | exact K3 | (intro _; exact K3) | (intro _; first | exact E6 _ | exact D5 _ _ | exact D0 _ | exact D8 _ | exact D7) | (intro _; refine Y7 ?_; (repeat (first | exact D1 | (refine B8 (by first | (first | exact E6 _ | exact D5 _ _ | exact D0 _ | exact D8 _ | exact D7) | (refine S5 ?_; (repeat (first | exact D1 | (refine B8 (by first | exact E6 _ | exact D5 _ _ | exact D0 _ | exact D8 _ | exact D7) ?_))))) ?_))); done) | (intro _; refine S5 ?_; (repeat (first | exact D1 | (refine B8 (by first | exact E6 _ | exact D5 _ _ | exact D0 _ | exact D8 _ | exact D7) ?_))); done) | ((repeat (first | exact K3 | (refine J2 (Q5 ?_) ?_; (repeat (first | exact D1 | (refine B8 (by first | exact E6 _ | exact D5 _ _ | exact D0 _ | exact D8 _ | exact D7) ?_)))) | (refine J2 (Q6 ?_) ?_; (repeat (first | exact Q7 | (refine Q9 (fun _ => ?_); (first | exact TWrite.flat _ | exact TFeedItem.flat _ | exact TIdx.flat _ | exact TVer.flat _ | (repeat (first | exact D1 | (refine B8 (by first | exact E6 _ | exact D5 _ _ | exact D0 _ | exact D8 _ | exact D7) ?_))))) | (refine R4 ?_; (first | exact TWrite.flat _ | exact TFeedItem.flat _ | exact TIdx.flat _ | exact TVer.flat _ | (repeat (first | exact D1 | (refine B8 (by first | exact E6 _ | exact D5 _ _ | exact D0 _ | exact D8 _ | exact D7) ?_))))) | (refine P9 ?_ ?_; (first | exact TWrite.flat _ | exact TFeedItem.flat _ | exact TIdx.flat _ | exact TVer.flat _ | (repeat (first | exact D1 | (refine B8 (by first | exact E6 _ | exact D5 _ _ | exact D0 _ | exact D8 _ | exact D7) ?_))))) | refine Q8 ?_ ?_))))); done) | (intro _; (repeat (first | exact K3 | (refine J2 (Q5 ?_) ?_; (repeat (first | exact D1 | (refine B8 (by first | exact E6 _ | exact D5 _ _ | exact D0 _ | exact D8 _ | exact D7) ?_)))) | (refine J2 (Q6 ?_) ?_; (repeat (first | exact Q7 | (refine Q9 (fun _ => ?_); (first | exact TWrite.flat _ | exact TFeedItem.flat _ | exact TIdx.flat _ | exact TVer.flat _ | (repeat (first | exact D1 | (refine B8 (by first | exact E6 _ | exact D5 _ _ | exact D0 _ | exact D8 _ | exact D7) ?_))))) | (refine R4 ?_; (first | exact TWrite.flat _ | exact TFeedItem.flat _ | exact TIdx.flat _ | exact TVer.flat _ | (repeat (first | exact D1 | (refine B8 (by first | exact E6 _ | exact D5 _ _ | exact D0 _ | exact D8 _ | exact D7) ?_))))) | (refine P9 ?_ ?_; (first | exact TWrite.flat _ | exact TFeedItem.flat _ | exact TIdx.flat _ | exact TVer.flat _ | (repeat (first | exact D1 | (refine B8 (by first | exact E6 _ | exact D5 _ _ | exact D0 _ | exact D8 _ | exact D7) ?_))))) | refine Q8 ?_ ?_))))); done)) (by first | exact K3 | (intro _; exact K3) | (intro _; first | exact E6 _ | exact D5 _ _ | exact D0 _ | exact D8 _ | exact D7) | (intro _; refine Y7 ?_; (repeat (first | exact D1 | (refine B8 (by first | (first | exact E6 _ | exact D5 _ _ | exact D0 _ | exact D8 _ | exact D7) | (refine S5 ?_; (repeat (first | exact D1 | (refine B8 (by first | exact E6 _ | exact D5 _ _ | exact D0 _ | exact D8 _ | exact D7) ?_))))) ?_))); done) | (intro _; refine S5 ?_; (repeat (first | exact D1 | (refine B8 (by first | exact E6 _ | exact D5 _ _ | exact D0 _ | exact D8 _ | exact D7) ?_))); done) | ((repeat (first | exact K3 | (refine J2 (Q5 ?_) ?_; (repeat (first | exact D1 | (refine B8 (by first | exact E6 _ | exact D5 _ _ | exact D0 _ | exact D8 _ | exact D7) ?_)))) | (refine J2 (Q6 ?_) ?_; (repeat (first | exact Q7 | (refine Q9 (fun _ => ?_); (first | exact TWrite.flat _ | exact TFeedItem.flat _ | exact TIdx.flat _ | exact TVer.flat _ | (repeat (first | exact D1 | (refine B8 (by first | exact E6 _ | exact D5 _ _ | exact D0 _ | exact D8 _ | exact D7) ?_))))) | (refine R4 ?_; (first | exact TWrite.flat _ | exact TFeedItem.flat _ | exact TIdx.flat _ | exact TVer.flat _ | (repeat (first | exact D1 | (refine B8 (by first | exact E6 _ | exact D5 _ _ | exact D0 _ | exact D8 _ | exact D7) ?_))))) | (refine P9 ?_ ?_; (first | exact TWrite.flat _ | exact TFeedItem.flat _ | exact TIdx.flat _ | exact TVer.flat _ | (repeat (first | exact D1 | (refine B8 (by first | exact E6 _ | exact D5 _ _ | exact D0 _ | exact D8 _ | exact D7) ?_))))) | refine Q8 ?_ ?_))))); done) | (intro _; (repeat (first | exact K3 | (refine J2 (Q5 ?_) ?_; (repeat (first | exact D1 | (refine B8 (by first | exact E6 _ | exact D5 _ _ | exact D0 _ | exact D8 _ | exact D7) ?_)))) | (refine J2 (Q6 ?_) ?_; (repeat (first | exact Q7 | (refine Q9 (fun _ => ?_); (first | exact TWrite.flat _ | exact TFeedItem.flat _ | exact TIdx.flat _ | exact TVer.flat _ | (repeat (first | exact D1 | (refine B8 (by first | exact E6 _ | exact D5 _ _ | exact D0 _ | exact D8 _ | exact D7) ?_))))) | (refine R4 ?_; (first | exact TWrite.flat _ | exact TFeedItem.flat _ | exact TIdx.flat _ | exact TVer.flat _ | (repeat (first | exact D1 | (refine B8 (by first | exact E6 _ | exact D5 _ _ | exact D0 _ | exact D8 _ | exact D7) ?_))))) | (refine P9 ?_ ?_; (first | exact TWrite.flat _ | exact TFeedItem.flat _ | exact TIdx.flat _ | exact TVer.flat _ | (repeat (first | exact D1 | (refine B8 (by first | exact E6 _ | exact D5 _ _ | exact D0 _ | exact D8 _ | exact D7) ?_))))) | refine Q8 ?_ ?_))))); done)) ?_
 intro x41 ok41
 refine A5 rfl ?_
 refine A1 rfl (L0 rfl E3 E8 Tryz.zeroValue9 rfl rfl rfl rfl (D9 (A0 rfl) (P2 _) H7) rfl rfl) ?_
 refine M0 (by' := 16) 0 rfl rfl rfl rfl E3 Tryz.type9 rfl rfl rfl rfl rfl rfl (A0 rfl) (A0 rfl) rfl (by simp only [A8, F0, A9]; omega) ?_
 intro v44_2
 refine A5 rfl ?_
 refine M0 (by' := 16) 0 rfl rfl rfl rfl E3 Tryz.type9 rfl rfl rfl rfl rfl rfl (A0 rfl) (A0 rfl) rfl (by simp only [A8, F0, List.length_drop, I5, A9]; omega) ?_
 intro v46_3
 refine B5 rfl ?_
 refine A4 ?_
 refine C5 ?_
 exact N5 [0] v46_3 (trivial) rfl (by first | rfl | exact congrArg (fun z => [Own.arr _ 9 1 z]) (by show List.map (fun s => [AV.str s]) (l.take k ++ s :: l.drop k) = (List.map (fun s => [AV.str s]) (l.take k) ++ [[AV.str s]]) ++ List.map (fun s => [AV.str s]) (l.drop k); simp)) (S1 rfl (C3 rfl (by rfl)))
end Go.Proofs.YtkegepoihkhihaaGreat
