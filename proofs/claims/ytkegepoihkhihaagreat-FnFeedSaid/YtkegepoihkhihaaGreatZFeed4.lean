/- Texts of the claim, part 4. -/
import Derived.Test.YtkegepoihkhihaaGreatZFeed3

set_option linter.unusedVariables false
set_option linter.unusedSimpArgs false
set_option maxRecDepth 100000
set_option maxHeartbeats 1000000
namespace Go.M
open Go.AV
theorem BC3 {l : List TWrite} (h : adj wLess l = true) (k : Str) : wHas l k = hasK l k := by
  have e := findW_eq h k
  cases hw : wHas l k with
  | true =>
    obtain ⟨x, hx, hk⟩ := wHas_iff.1 hw
    exact (Z4.2 ⟨x, G6 hx, hk⟩).symm
  | false =>
    rw [hw] at e
    simp only [Bool.false_eq_true, if_false] at e
    unfold findW at e
    rw [List.find?_eq_none] at e
    cases hk : hasK l k with
    | false => rfl
    | true => obtain ⟨x, hx, hxk⟩ := Z4.1 hk; have := e x hx; simp [hxk] at this
theorem Ay2 {w : List TWrite} (h : goodWrites w = true) : adj wLess w = true := by
  unfold goodWrites areRising wKeys at h
  simp only [Bool.and_eq_true] at h
  have := h.1.2.2
  rw [AO4] at this
  exact this
theorem BC4 {l : List TCell} (ha : adj cLess l = true) {k : Str} {c : TCell} (hc : cHas l k = true → l[cPos l k]? = some c) : fullC l k = (cHas l k && decide ((16 : Int) ≤ (c.Vers.length : Int))) := by
  unfold fullC
  rw [AS5 ha]
  cases h : cHas l k with
  | false => simp
  | true =>
    rw [if_pos rfl, hc h, Bool.true_and]
    dsimp only
    rw [decide_eq_decide]; omega
theorem X4 {l : List THeld} {i : Nat} {h : THeld} {n : Nat} (hs : sizeL THeld.size l ≤ n) (hx : l[i]? = some h) : h.size ≤ n ∧ sizeL TWrite.size h.Writes ≤ n ∧ h.Writes.length ≤ n ∧ h.Reads.length ≤ n ∧ (hRec h).size ≤ n := by
  have h1 := Nat.le_trans (V2 hx) hs
  have h2 : h.size = sizeL (fun x => x.length) h.Reads + sizeL TWrite.size h.Writes := rfl
  have h3 := M9 (f := fun x : Str => x.length) (l := h.Reads)
  have h4 := M9 (f := TWrite.size) (l := h.Writes)
  have h5 : (hRec h).size = sizeL (fun x => x.length) h.Reads + sizeL TWrite.size h.Writes := rfl
  exact ⟨by omega, by omega, by omega, by omega, by omega⟩
theorem Ag8 {α : Type} {f : α → Nat} {l : List α} (i : Nat) : sizeL f (l.take i) ≤ sizeL f l := by
  have := l4 (f := f) (l := l.take i) (r := l.drop i)
  rw [List.take_append_drop] at this; omega
theorem Aa2 : ∀ {l : List THeld}, (hWs l).length ≤ sizeL THeld.size l
  | [] => Nat.zero_le _
  | h :: l => by
    have ih := Aa2 (l := l)
    have h4 := M9 (f := TWrite.size) (l := h.Writes)
    have h2 : h.size = sizeL (fun x => x.length) h.Reads + sizeL TWrite.size h.Writes := rfl
    rw [y7, J4, Q1]; omega
theorem Am1 {l : List THeld} {i : Nat} {h : THeld} (hx : l[i]? = some h) : hWs (l.take (i + 1)) = hWs (l.take i) ++ h.Writes := by
  rw [List.take_add_one, hx, AV7]
  show _ ++ hWs [h] = _
  rw [y7]; simp [hWs]
def hCmp (n : Int) (h : THeld) : Int := cmpInt h.Txn n
def hPos (l : List THeld) (n : Int) : Nat := bs (hCmp n) l 0 l.length
def hHas (l : List THeld) (n : Int) : Bool := bsAt (hCmp n) l (hPos l n)
theorem AH1 (a b : Int) : cmpInt a b < 0 ↔ a < b := by unfold cmpInt; split <;> (try split) <;> omega
theorem AQ8 (a b : Int) : cmpInt a b = 0 ↔ a = b := by unfold cmpInt; split <;> (try split) <;> omega
theorem AO9 {α : Type} {f : α → Int} {l : List α} (h : l.Pairwise fun a b => f a < f b) {i j : Nat} {x y : α} (hij : i < j) (hx : l[i]? = some x) (hy : l[j]? = some y) : f x < f y := by
  obtain ⟨i1, i2⟩ := List.getElem?_eq_some_iff.1 hx
  obtain ⟨j1, j2⟩ := List.getElem?_eq_some_iff.1 hy
  have := List.pairwise_iff_getElem.1 h i j i1 j1 hij
  rw [i2, j2] at this; exact this
theorem bsI_spec {α : Type} {f : α → Int} {l : List α} (h : l.Pairwise fun a b => f a < f b) (n : Int) : (∀ i x, i < bs (fun a => cmpInt (f a) n) l 0 l.length → l[i]? = some x → f x < n) ∧ (∀ x, l[bs (fun a => cmpInt (f a) n) l 0 l.length]? = some x → n ≤ f x) := by
  have := AZ2 (fun a => cmpInt (f a) n) l (fun i j x y hij hx hy hf => by
    rw [AH1] at *
    have := AO9 h hij hx hy; omega) l.length 0 l.length rfl (Nat.zero_le _) (Nat.le_refl _) (fun k x hk => by omega) (fun x hx => by rw [List.getElem?_eq_none (Nat.le_refl _)] at hx; cases hx)
  exact ⟨fun i x hi hx => (AH1 _ _).1 (this.1 i x hi hx), fun x hx => by have := this.2 x hx; rw [AH1] at this; omega⟩
theorem bsI_has {α : Type} {f : α → Int} {l : List α} (h : l.Pairwise fun a b => f a < f b) (n : Int) : bsAt (fun a => cmpInt (f a) n) l (bs (fun a => cmpInt (f a) n) l 0 l.length) = l.any fun a => f a == n := by
  obtain ⟨h1, h2⟩ := bsI_spec h n
  cases ha : l.any fun a => f a == n with
  | true =>
    rw [List.any_eq_true] at ha
    obtain ⟨x, hx, e⟩ := ha
    obtain ⟨i, hi⟩ := List.getElem?_of_mem hx
    have e : f x = n := by simpa using e
    have hip : bs (fun a => cmpInt (f a) n) l 0 l.length = i := by
      rcases Nat.lt_trichotomy i (bs (fun a => cmpInt (f a) n) l 0 l.length) with h3 | h3 | h3
      · have := h1 i x h3 hi; omega
      · exact h3.symm
      · have hl := (List.getElem?_eq_some_iff.1 hi).1
        have hy := List.getElem?_eq_getElem (show bs (fun a => cmpInt (f a) n) l 0 l.length < l.length by omega)
        have h4 := h2 _ hy
        have h5 := AO9 h h3 hy hi; omega
    rw [hip]
    unfold bsAt
    rw [hi]
    simp only [(AQ8 _ _).2 e]; rfl
  | false =>
    rw [List.any_eq_false] at ha
    unfold bsAt
    cases e : l[bs (fun a => cmpInt (f a) n) l 0 l.length]? with
    | none => rfl
    | some x =>
      have := ha x (G6 e)
      simp only [beq_iff_eq] at this ⊢
      rw [beq_eq_false_iff_ne]
      exact fun k => this ((AQ8 _ _).1 k)
theorem Av0 {l : List THeld} (h : l.Pairwise fun a b => a.Txn < b.Txn) (n : Int) : hHas l n = hasH l n := bsI_has (f := THeld.Txn) h n
theorem U9 {s : TState} {n : Nat} (h : s.size ≤ n) : sizeL TCell.size s.Cells ≤ n ∧ sizeL THeld.size s.Held ≤ n ∧ s.Told.length ≤ n ∧ s.Cells.length ≤ n ∧ s.Held.length ≤ n := by
  have h1 : s.size = sizeL TCell.size s.Cells + sizeL THeld.size s.Held + s.Told.length := rfl
  have h2 := M9 (f := TCell.size) (l := s.Cells)
  have h3 := M9 (f := THeld.size) (l := s.Held)
  exact ⟨by omega, by omega, by omega, by omega, by omega⟩
theorem r8 {s : TState} {i : Nat} {h y : THeld} (hx : s.Held[i]? = some h) (hy : s.Held[i - 1]? = some y) : heldAt s i = (!(((!goodRec (hRec h) || decide (s.Floor < h.Time)) || (decide ((0 : Int) < (i : Int)) && decide (h.Txn ≤ y.Txn)))) && (!((s.Held.take i).any fun g => clash h g) && !(h.Writes.any fun w => decide (h.Time ≤ lastTime s.Cells w.Key)))) := by
  unfold heldAt
  rw [hx]
  have h1 : hPrev s.Held i h.Txn = !(decide ((0 : Int) < (i : Int)) && decide (h.Txn ≤ y.Txn)) := by
    unfold hPrev; rw [hy]; dsimp only
    congr 2
    rw [decide_eq_decide]; omega
  have h2 : ((s.Held.take i).all fun g => apart g h.Reads h.Writes) = !((s.Held.take i).any fun g => clash h g) := by
    rw [List.not_any_eq_all_not]; congr 1; funext g; rw [AQ1, Bool.not_not]
  have h3 : (h.Writes.all fun w => decide (lastTime s.Cells w.Key < h.Time)) = !(h.Writes.any fun w => decide (h.Time ≤ lastTime s.Cells w.Key)) := by
    rw [List.not_any_eq_all_not]; congr 1; funext w; rw [← decide_not, decide_eq_decide]; omega
  dsimp only
  rw [h1, h2, h3]
  simp only [Bool.not_or, Bool.not_not, Bool.and_assoc]
theorem AQ9 {s : TState} {i : Nat} {h : THeld} (hx : s.Held[i]? = some h) (hg : heldAt s i = true) : goodRec (hRec h) = true ∧ ∀ g, 0 < i → s.Held[i - 1]? = some g → g.Txn < h.Txn := by
  unfold heldAt at hg
  rw [hx] at hg
  simp only [Bool.and_eq_true, AK7] at hg
  exact ⟨hg.1.1.1.1, hg.1.1.2⟩
theorem AT3 {h : THeld} (hg : goodRec (hRec h) = true) : adj wLess h.Writes = true := by
  unfold goodRec hRec at hg
  rw [if_pos rfl] at hg
  unfold good1 at hg
  simp only [Bool.and_eq_true] at hg
  exact Ay2 hg.1.1.2
theorem Am2 {s : TState} (h : areHeld s = true) : s.Held.Pairwise fun a b => a.Txn < b.Txn := by
  unfold areHeld at h
  rw [Bool.and_eq_true, c9] at h
  exact AG6 fun i x y h0 hx hy => (AQ9 hx (h.1 i (List.getElem?_eq_some_iff.1 hx).1)).2 y h0 hy
theorem AB2 {s : TState} {i : Nat} {t y : TTold} (hx : s.Told[i]? = some t) (hy : s.Told[i - 1]? = some y) : toldAt s i = (!((!isTxnR t.Txn || !((t.Yes && within t.Time 1 s.Floor) || (!t.Yes && (t.Time == 0)))) || (decide ((0 : Int) < (i : Int)) && decide (t.Txn ≤ y.Txn))) && !hasH s.Held t.Txn) := by
  unfold toldAt
  rw [hx]
  have h1 : tPrev s.Told i t.Txn = !(decide ((0 : Int) < (i : Int)) && decide (t.Txn ≤ y.Txn)) := by
    unfold tPrev; rw [hy]; dsimp only
    congr 2
    rw [decide_eq_decide]; omega
  have h2 : tFits s t = ((t.Yes && within t.Time 1 s.Floor) || (!t.Yes && (t.Time == 0))) := by
    unfold tFits; cases t.Yes <;> simp
  dsimp only
  rw [h1, h2]
  generalize ((t.Yes && within t.Time 1 s.Floor) || (!t.Yes && (t.Time == 0))) = b
  simp only [Bool.not_or, Bool.not_not, Bool.and_assoc]
end Go.M
namespace Go.Proofs.YtkegepoihkhihaaGreat
open Go Go.AV Go.M
attribute [local irreducible] OpW OpA OpS AWP FSpec ESpec GSpec OpE RetOk RetOkG RvDen Le Ev GuardIs SrcIs Int.tmod Int.tdiv IntKind.wrap
theorem Ag9 (w : TWrite) (os : List TWrite) (rs : List Str) (hs : os.length ≤ 4611686018427387903) (ha : adj wLess os = true) : FSpec Tryz.prog 218 [AV.agg w.cs, AV.eptr [AV.list 3 (os.map TWrite.cs)], AV.eptr [strs rs]] (AV.bool (hasK os w.Key || hasS rs w.Key)) := by
 have hwh := BC3 ha w.Key
 refine D8 Tryz.func218 rfl Tryz.ntmps218 rfl ?_
 refine A3 (A2 ?_)
 refine L6 rfl rfl rfl rfl (A0 rfl) ?_
 intro b3
 refine A1 rfl (B3 rfl F0) ?_
 refine A4 (A3 (A2 ?_))
 refine A1 rfl (L3 rfl (A0 rfl) L2 rfl) ?_
 refine A1 rfl (B2 0 rfl I0 rfl E3 (A0 rfl) rfl) ?_
 refine A1 rfl (B0 0 rfl (A0 rfl) rfl F5 rfl) ?_
 refine A1 rfl (D7 rfl Tryz.call219 rfl (AZ8 _ _ (by omega)) (A8 (A0 rfl) (A8 (A0 rfl) C6))) ?_
 refine A5 rfl ?_
 refine A1 rfl (I1 rfl (A0 rfl) rfl) ?_
 refine A1 rfl (I1 rfl (A0 rfl) rfl) ?_
 refine B4 rfl ?_
 refine B4 rfl ?_
 refine A4 (A3 (A2 ?_))
 refine A5 rfl ?_
 refine A5 rfl ?_
 refine H2 rfl (fun hc => L3 rfl (A0 rfl) P7 rfl) ?_
 refine H2 rfl (fun hc => B2 0 rfl I0 rfl E3 (A0 rfl) rfl) ?_
 refine H2 rfl (fun hc => B0 0 rfl (A6 rfl hc) rfl F5 rfl) ?_
 refine H2 rfl (fun hc => D7 rfl Tryz.call220 rfl (AJ1 _ _) (A8 (A6 rfl hc) (A8 (A6 rfl hc) C6))) ?_
 refine A1 rfl (P9 rfl (A0 rfl) (F1 rfl)) ?_
 refine B4 rfl ?_
 refine A4 ?_
 refine C2 ?_
 exact G1 rfl (B8 rfl (by exact congrArg AV.bool (by rw [hwh]; rfl)))
theorem AL6 (ws : List TWrite) (rs : List Str) (os : List TWrite) (hs : os.length ≤ 4611686018427387903) (ha : adj wLess os = true) : FSpec Tryz.prog 187 [AV.list 3 (ws.map TWrite.cs), strs rs, AV.list 3 (os.map TWrite.cs)] (AV.bool (overlap ws rs os)) := by
 refine D8 Tryz.func187 rfl Tryz.ntmps187 rfl ?_
 refine A3 (A2 ?_)
 refine At8 rfl rfl rfl rfl (A0 rfl) (AR7 _ _) ?_
 intro b4
 refine At8 rfl rfl rfl rfl (A0 rfl) (AR7 _ _) ?_
 intro b5
 refine A1 rfl (B3 rfl F0) ?_
 refine A4 (A3 (A2 ?_))
 refine A5 rfl ?_
 refine A1 rfl (w_clo rfl rfl (A8 (A0 rfl) (A8 (A0 rfl) C6))) ?_
 refine A1 rfl (n1 rfl Tryz.call141 rfl (X8 _ _ _ (by first | (intros; trivial) | assumption | (intros; first | trivial | (simp_all; done)))) (C7 _) (R8 (evb (A0 rfl)) (R8 (AF3 (Aj5 0 1 (A0 rfl) rfl rfl) (AR8 Tryz.call218 (fun w (_ : True) => Ag9 w _ _ (by first | assumption | omega) (by assumption)))) W5))) ?_
 refine B4 rfl ?_
 refine A4 ?_
 refine C2 ?_
 exact G1 rfl (B8 rfl (by first | rfl | (refine congrArg AV.bool ?_; simp_all; done)))
theorem Ay3 (h k : THeld) (h1 : h.Writes.length ≤ 4611686018427387903) (k1 : k.Writes.length ≤ 4611686018427387903) (ha : adj wLess h.Writes = true) (ka : adj wLess k.Writes = true) : FSpec Tryz.prog 140 [AV.agg h.cs, AV.agg k.cs] (AV.bool (clash h k)) := by
 refine D8 Tryz.func140 rfl Tryz.ntmps140 rfl ?_
 refine A3 (A2 ?_)
 refine L6 rfl rfl rfl rfl (A0 rfl) ?_
 intro b2
 refine L6 rfl rfl rfl rfl (A0 rfl) ?_
 intro b3
 refine A1 rfl (B3 rfl F0) ?_
 refine A4 (A3 (A2 ?_))
 refine A1 rfl (B2 4 rfl E8 rfl K4 (A0 rfl) rfl) ?_
 refine A1 rfl (B0 1 rfl (A0 rfl) rfl L2 rfl) ?_
 refine A1 rfl (B2 3 rfl E8 rfl N3 (A0 rfl) rfl) ?_
 refine A1 rfl (B0 0 rfl (A0 rfl) rfl P7 rfl) ?_
 refine A1 rfl (B2 4 rfl E8 rfl K4 (A0 rfl) rfl) ?_
 refine A1 rfl (B0 0 rfl (A0 rfl) rfl L2 rfl) ?_
 refine A1 rfl (D7 rfl Tryz.call187 rfl (AL6 _ _ _ (by first | assumption | omega) (by assumption)) (A8 (A0 rfl) (A8 (A0 rfl) (A8 (A0 rfl) C6)))) ?_
 refine A5 rfl ?_
 refine H2 rfl (fun hc => B2 4 rfl E8 rfl K4 (A0 rfl) rfl) ?_
 refine H2 rfl (fun hc => B0 0 rfl (A6 rfl hc) rfl L2 rfl) ?_
 refine H2 rfl (fun hc => B2 3 rfl E8 rfl N3 (A0 rfl) rfl) ?_
 refine H2 rfl (fun hc => B0 1 rfl (A6 rfl hc) rfl P7 rfl) ?_
 refine H2 rfl (fun hc => B2 4 rfl E8 rfl K4 (A0 rfl) rfl) ?_
 refine H2 rfl (fun hc => B0 1 rfl (A6 rfl hc) rfl L2 rfl) ?_
 refine H2 rfl (fun hc => D7 rfl Tryz.call187 rfl (AL6 _ _ _ (by first | assumption | omega) (by assumption)) (A8 (A6 rfl hc) (A8 (A6 rfl hc) (A8 (A6 rfl hc) C6)))) ?_
 refine A1 rfl (P9 rfl (A0 rfl) (F1 rfl)) ?_
 refine B4 rfl ?_
 refine A4 ?_
 refine C2 ?_
 exact G1 rfl (B8 rfl (by first | rfl | (refine congrArg AV.bool ?_; simp_all; done)))
theorem rec_spec (h : THeld) : FSpec Tryz.prog 137 [AV.agg h.cs] (AV.agg (hRec h).cs) := by
 refine D8 Tryz.func137 rfl Tryz.ntmps137 rfl ?_
 refine A3 (A2 ?_)
 refine L6 rfl rfl rfl rfl (A0 rfl) ?_
 intro b1
 refine H3 rfl rfl rfl rfl Tryz.zeroValue104 rfl ?_
 intro b2
 refine A4 (A3 (A2 ?_))
 refine A1 rfl (B2 0 rfl E8 rfl B9 (A0 rfl) rfl) ?_
 refine A1 rfl (B0 1 rfl (A0 rfl) rfl C1 rfl) ?_
 refine A1 rfl (B2 1 rfl E8 rfl B9 (A0 rfl) rfl) ?_
 refine A1 rfl (B0 1 rfl (A0 rfl) rfl C1 rfl) ?_
 refine A1 rfl (B2 2 rfl E8 rfl B9 (A0 rfl) rfl) ?_
 refine A1 rfl (B0 1 rfl (A0 rfl) rfl C1 rfl) ?_
 refine A1 rfl (B2 3 rfl E8 rfl N3 (A0 rfl) rfl) ?_
 refine A1 rfl (B0 1 rfl (A0 rfl) rfl P7 rfl) ?_
 refine A1 rfl (B2 4 rfl E8 rfl K4 (A0 rfl) rfl) ?_
 refine A1 rfl (B0 1 rfl (A0 rfl) rfl L2 rfl) ?_
 refine A1 rfl (O6 (places := #[(0, 1), (1, 1), (2, 1), (3, 1), (4, 1), (5, 1), (6, 1)]) rfl C0 Tryz.zeroValue104 (fun w => by kernel_rfl) rfl (F4 B5 (P2 _ _) (F4 (A0 rfl) (P2 _ _) (F4 (A0 rfl) (P2 _ _) (F4 (A0 rfl) (P2 _ _) (F4 (A0 rfl) (U1 _ _) (F4 (A0 rfl) (U1 _ _) J5)))))) rfl) ?_
 refine E9 0 rfl rfl rfl (A0 rfl) (A0 rfl) (F9 _) rfl N5 rfl ?_
 refine A4 ?_
 refine C2 ?_
 exact G1 rfl (Q2 (ys := _) 0 rfl rfl Y7 N5 rfl)
theorem Am3 {l : List TCell} {h : List THeld} (a b : Nat) (hl : sizeL TCell.size l ≤ 1048576) (hh : sizeL THeld.size h ≤ 1048576) : (cKeys (l.take a) ++ wKeys (hWs (h.take b))).length ≤ 2097152 := by
  have h1 := M9 (f := TCell.size) (l := l)
  have h2 := Aa2 (l := h.take b)
  have h3 := Ag8 (f := THeld.size) (l := h) b
  unfold cKeys wKeys
  simp only [J4, A9, E6]
  omega
theorem BC5 (s : TState) (held : List THeld) (hg : goodCells s.Cells = true) (hs : s.size ≤ 1048576) (hh : sizeL THeld.size held ≤ 1048576) : FSpec Tryz.prog 143 [AV.agg s.cs, AV.list 5 (held.map THeld.cs)] (AV.bool (decide (held.length ≤ 12) && room s.Cells (hWs held))) := by
 obtain ⟨hs1, hs2, hs3, hs4, hs5⟩ := U9 hs
 have hca := (P4 hg).2.1
 have hhl := M9 (f := THeld.size) (l := held)
 obtain ⟨p, hp⟩ : ∃ p : TWrite → Bool, p = fun w => !fullC s.Cells w.Key := ⟨_, rfl⟩
 refine D8 Tryz.func143 rfl Tryz.ntmps143 rfl ?_
 refine A3 (A2 ?_)
 refine L6 rfl rfl rfl rfl (A0 rfl) ?_
 intro b2
 refine A1 rfl (B3 rfl F0) ?_
 refine A4 (A3 (A2 ?_))
 refine O8 rfl rfl rfl rfl E5 E3 ?_
 intro v14
 refine B4 rfl ?_
 refine A4 (A3 (A3 (A2 ?_)))
 refine A1 rfl (B2 1 rfl D2 rfl M4 (A0 rfl) rfl) ?_
 refine A1 rfl (B0 1 rfl (A0 rfl) rfl O9 rfl) ?_
 refine A1 rfl (G5 rfl E2 (A0 rfl)) ?_
 refine A1 rfl (B7 rfl B5) ?_
 refine A4 (D0 ?_)
 refine T5 [(1, _), (2, _), (4, _), (16, _), (17, _)] _ (fun (i : Nat) (v : Value) (ks : List Str) => i ≤ s.Cells.length ∧ ks = cKeys (s.Cells.take i)) (fun (i : Nat) (v : Value) (ks : List Str) => [.arr v 9 1 (ks.map fun k => [AV.str k])]) (fun (i : Nat) (v : Value) (ks : List Str) => [(5, AV.is v), (18, AV.int i)]) (fun (i : Nat) (v : Value) (ks : List Str) => s.Cells.length - i) (0) (v14) ([]) ?_ (Q3 (by rfl) ⟨rfl, rfl, rfl, rfl, rfl, rfl, rfl, trivial⟩) ?_
 ·exact ⟨Nat.zero_le _, rfl⟩
 intro i v ks hinv
 refine A3 (A2 ?_)
 refine A1 rfl (I4 rfl (A0 rfl) (A0 rfl)) ?_
 refine A4 (A3 ?_)
 refine C3 (A0 rfl) ?_ ?_
 ·intro h19
  have k19 := of_decide_eq_true h19; try simp only [A9] at k19
  have hlt : i < s.Cells.length := by omega
  obtain ⟨c, hx⟩ := get_some hlt
  have hkl : ks.length ≤ 1048576 := by rw [hinv.2]; unfold cKeys; rw [A9, E6]; omega
  refine C8 (A3 (D0 (A3 (A2 ?_))))
  refine A1 rfl (H5 rfl E2 F3 (A0 rfl) (A0 rfl) hx (by first | omega | (simp only [D1, A7, szR] at *; omega))) ?_
  refine A1 rfl (J0 rfl (A0 rfl) R5 F3) ?_
  refine H3 rfl rfl rfl rfl Tryz.zeroValue125 rfl ?_
  intro b7
  refine E9 0 rfl rfl rfl (A0 rfl) (A0 rfl) (F9 _) rfl F3 rfl ?_
  refine A4 (A2 ?_)
  refine A5 rfl ?_
  refine A1 rfl (B2 0 rfl F8 rfl E3 (A0 rfl) rfl) ?_
  refine A1 rfl (B0 0 rfl (A0 rfl) rfl F5 rfl) ?_
  refine A1 rfl (M0 rfl E5 E3 Tryz.zeroValue9 rfl rfl rfl rfl (F4 (A0 rfl) (T4 _) J5) rfl rfl) ?_
  refine M6 (by' := 16) 1 rfl rfl rfl rfl E5 Tryz.type9 rfl rfl rfl rfl rfl rfl (A0 rfl) (A0 rfl) rfl (by first | omega | (simp only [D1, A7, szR] at *; omega)) ?_
  intro v26_1
  refine B4 rfl ?_
  refine A4 (A2 ?_)
  refine A1 rfl (F6 rfl (A0 rfl) B5 (by first | omega | (simp only [D1, A7, szR] at *; omega))) ?_
  refine A5 rfl ?_
  refine A4 ?_
  refine S9 i v ks (i + 1) (v26_1) (ks ++ [c.Key]) ?_ ?_ (M3 1 (by (rw [List.map_append]; rfl)) ⟨rfl, rfl, rfl, rfl, rfl, rfl, rfl, trivial⟩)
  ·exact ⟨by omega, by rw [hinv.2]; unfold cKeys; rw [List.take_add_one, hx, List.map_append]; rfl⟩
  omega
 intro h19
 have k19 := of_decide_eq_false h19; try simp only [A9] at k19
 have hge : s.Cells.length ≤ i := by omega
 have hks : ks = cKeys s.Cells := by rw [hinv.2, List.take_of_length_le hge]
 refine G0 ?_
 refine A3 (A3 (A2 ?_))
 refine A5 rfl ?_
 refine A1 rfl (G5 rfl E4 (A0 rfl)) ?_
 refine A1 rfl (B7 rfl B5) ?_
 refine A4 (D0 ?_)
 refine T5 [(1, _), (2, _), (28, _), (29, _)] _ (fun (q : Nat) (v1 : Value) (k1 : List Str) => q ≤ held.length ∧ k1 = cKeys s.Cells ++ wKeys (hWs (held.take q)) ∧ (hWs held).all p = (hWs (held.drop q)).all p) (fun (q : Nat) (v1 : Value) (k1 : List Str) => [.arr v1 9 1 (k1.map fun k => [AV.str k])]) (fun (q : Nat) (v1 : Value) (k1 : List Str) => [(5, AV.is v1), (30, AV.int q)]) (fun (q : Nat) (v1 : Value) (k1 : List Str) => held.length - q) (0) (v) (ks) ?_ (Q3 (by rfl) ⟨rfl, rfl, rfl, rfl, rfl, rfl, trivial⟩) ?_
 ·exact ⟨Nat.zero_le _, by rw [hks, List.take_zero]; simp [hWs, wKeys], rfl⟩
 intro q v1 k1 hinv
 refine A3 (A2 ?_)
 refine A1 rfl (I4 rfl (A0 rfl) (A0 rfl)) ?_
 refine A4 (A3 ?_)
 refine C3 (A0 rfl) ?_ ?_
 ·intro h31
  have k31 := of_decide_eq_true h31; try simp only [A9] at k31
  have hlt : q < held.length := by omega
  obtain ⟨h, hh0⟩ := get_some hlt
  obtain ⟨g1, g2, g3, g4, g5⟩ := X4 hh hh0
  have hinv1 := hinv
  refine C8 (A3 (D0 (A3 (A2 ?_))))
  refine A1 rfl (H5 rfl E4 D9 (A0 rfl) (A0 rfl) hh0 (by first | omega | (simp only [D1, A7, szR] at *; omega))) ?_
  refine A1 rfl (J0 rfl (A0 rfl) J9 D9) ?_
  refine H3 rfl rfl rfl rfl Tryz.zeroValue141 rfl ?_
  intro b9
  refine E9 0 rfl rfl rfl (A0 rfl) (A0 rfl) (F9 _) rfl D9 rfl ?_
  refine A4 (A3 (A2 ?_))
  refine A1 rfl (B2 4 rfl E8 rfl K4 (A0 rfl) rfl) ?_
  refine A1 rfl (B0 0 rfl (A0 rfl) rfl L2 rfl) ?_
  refine A1 rfl (G5 rfl F7 (A0 rfl)) ?_
  refine A1 rfl (B7 rfl B5) ?_
  refine A4 (D0 ?_)
  refine AWP.le (K1 [1] rfl) ?_
  refine T5 [(1, _), (2, _), (9, _), (28, _), (29, _), (30, _), (31, _), (32, _), (33, _), (34, _), (35, _), (36, _)] _ (fun (r : Nat) (v2 : Value) (k2 : List Str) => r ≤ h.Writes.length ∧ k2 = k1 ++ wKeys (h.Writes.take r) ∧ h.Writes.all p = (h.Writes.drop r).all p) (fun (r : Nat) (v2 : Value) (k2 : List Str) => [.arr v2 9 1 (k2.map fun k => [AV.str k])]) (fun (r : Nat) (v2 : Value) (k2 : List Str) => [(5, AV.is v2), (37, AV.int r)]) (fun (r : Nat) (v2 : Value) (k2 : List Str) => h.Writes.length - r) (0) (v1) (k1) ?_ (Q3 (by rfl) ⟨rfl, rfl, rfl, rfl, rfl, rfl, rfl, rfl, rfl, rfl, rfl, rfl, rfl, rfl, trivial⟩) ?_
  ·exact ⟨Nat.zero_le _, by simp [wKeys], rfl⟩
  intro r v2 k2 hinv
  refine A3 (A2 ?_)
  refine A1 rfl (I4 rfl (A0 rfl) (A0 rfl)) ?_
  refine A4 (A3 ?_)
  refine C3 (A0 rfl) ?_ ?_
  ·intro h38
   have k38 := of_decide_eq_true h38; try simp only [A9] at k38
   have hlt2 : r < h.Writes.length := by omega
   obtain ⟨w, hw⟩ := get_some hlt2
   obtain ⟨c, hc0⟩ := w5 s.Cells (cPos s.Cells w.Key)
   have hc1 : cHas s.Cells w.Key = true → s.Cells[cPos s.Cells w.Key]? = some c := fun e => by (obtain ⟨y, hy, _⟩ := AG1.1 e; exact hc0 (List.getElem?_eq_some_iff.1 hy).1)
   have hfu := BC4 hca hc1
   have hk2l : k2.length ≤ 3145728 := by rw [hinv.2.1, hinv1.2.1]; have := Am3 s.Cells.length q hs1 hh; rw [List.take_length] at this; unfold wKeys at this ⊢; simp only [J4, A9, E6] at this ⊢; omega
   refine C8 (A3 (D0 (A3 (A2 ?_))))
   refine A1 rfl (H5 rfl F7 I2 (A0 rfl) (A0 rfl) hw (by first | omega | (simp only [D1, A7, szR] at *; omega))) ?_
   refine A1 rfl (J0 rfl (A0 rfl) S7 I2) ?_
   refine H3 rfl rfl rfl rfl Tryz.zeroValue101 rfl ?_
   intro b11
   refine E9 0 rfl rfl rfl (A0 rfl) (A0 rfl) (F9 _) rfl I2 rfl ?_
   refine A4 (A3 (A3 (A2 ?_)))
   refine A1 rfl (B2 1 rfl D2 rfl M4 (A0 rfl) rfl) ?_
   refine A1 rfl (B0 3 rfl (A0 rfl) rfl O9 rfl) ?_
   refine A1 rfl (B2 0 rfl I0 rfl E3 (A0 rfl) rfl) ?_
   refine A1 rfl (B0 0 rfl (A0 rfl) rfl F5 rfl) ?_
   refine A1 rfl (D7 rfl Tryz.call122 rfl (AI6 s.Cells w.Key (by omega)) (A8 (A0 rfl) (A8 (A0 rfl) C6))) ?_
   refine A5 rfl ?_
   refine A1 rfl (I1 rfl (A0 rfl) rfl) ?_
   refine A1 rfl (I1 rfl (A0 rfl) rfl) ?_
   refine B4 rfl ?_
   refine B4 rfl ?_
   refine A4 (A3 (A2 ?_))
   refine A5 rfl ?_
   refine A5 rfl ?_
   refine C4 rfl (fun hc => B2 1 rfl D2 rfl M4 (A0 rfl) rfl) ?_
   refine C4 rfl (fun hc => B0 3 rfl (A6 rfl hc) rfl O9 rfl) ?_
   refine C4 rfl (fun hc => B7 rfl (A0 rfl)) ?_
   refine C4 rfl (fun hc => d6 rfl E2 F3 (A6 rfl hc) (A6 rfl hc) (by have := (List.getElem?_eq_some_iff.1 (hc1 hc)).1; omega) (by rw [Int.toNat_natCast, List.getElem?_map, hc1 hc]; rfl)) ?_
   refine C4 rfl (fun hc => R7 rfl F8 rfl M8 (A6 rfl hc) rfl) ?_
   refine C4 rfl (fun hc => L3 rfl (A6 rfl hc) P1 rfl) ?_
   refine C4 rfl (fun hc => G5 rfl I7 (A6 rfl hc)) ?_
   refine C4 rfl (fun hc => V3 rfl (A6 rfl hc) B5) ?_
   refine A1 rfl (G8 rfl (A0 rfl) (F1 rfl)) ?_
   refine A4 ?_
   refine C3 (A0 rfl) ?_ ?_
   ·intro h59
    have hpw : p w = false := by rw [hp]; simp only [Bool.not_eq_false']; rw [hfu]; simpa using h59
    have hro : room s.Cells (hWs held) = false := by (unfold room; rw [show ((hWs held).all fun w => !fullC s.Cells w.Key) = false from by rw [← hp, hinv1.2.2, drop_some hh0, y7, List.all_append, hinv.2.2, drop_some hw, List.all_cons, hpw]; rfl]; rfl)
    refine A3 (A2 ?_)
    refine A1 rfl (B3 rfl F0) ?_
    refine A4 ?_
    refine C2 ?_
    exact G1 rfl (B8 rfl (by first | exact congrArg AV.bool (by rw [hro]; simp) | exact congrArg AV.bool (by rw [hre, Bool.eq_iff_iff]; simp only [Bool.and_eq_true, decide_eq_true_eq, decide_eq_false_iff_not, A9, Bool.false_eq_true, and_false, false_and, false_iff] at *; omega)))
   intro h59
   have hpw : p w = true := by rw [hp]; simp only [Bool.not_eq_true']; rw [hfu]; simpa using h59
   refine C8 (A2 ?_)
   refine A5 rfl ?_
   refine A1 rfl (B2 0 rfl I0 rfl E3 (A0 rfl) rfl) ?_
   refine A1 rfl (B0 0 rfl (A0 rfl) rfl F5 rfl) ?_
   refine A1 rfl (M0 rfl E5 E3 Tryz.zeroValue9 rfl rfl rfl rfl (F4 (A0 rfl) (T4 _) J5) rfl rfl) ?_
   refine M6 (by' := 16) 1 rfl rfl rfl rfl E5 Tryz.type9 rfl rfl rfl rfl rfl rfl (A0 rfl) (A0 rfl) rfl (by first | omega | (simp only [D1, A7, szR] at *; omega)) ?_
   intro v64_2
   refine B4 rfl ?_
   refine A4 (A2 ?_)
   refine A1 rfl (F6 rfl (A0 rfl) B5 (by first | omega | (simp only [D1, A7, szR] at *; omega))) ?_
   refine A5 rfl ?_
   refine A4 ?_
   refine S9 r v2 k2 (r + 1) (v64_2) (k2 ++ [w.Key]) ?_ ?_ (Le.trans (K1 [0, 0] rfl) (M3 1 (by (rw [List.map_append]; rfl)) ⟨rfl, rfl, rfl, rfl, rfl, rfl, rfl, rfl, rfl, rfl, rfl, rfl, rfl, rfl, trivial⟩))
   ·exact ⟨by omega, by rw [hinv.2.1]; unfold wKeys; rw [List.take_add_one, hw, List.map_append, List.append_assoc]; rfl, by rw [hinv.2.2, drop_some hw, List.all_cons, hpw]; rfl⟩
   omega
  intro h38
  have k38 := of_decide_eq_false h38; try simp only [A9] at k38
  have hge2 : h.Writes.length ≤ r := by omega
  have hk2 : k2 = k1 ++ wKeys h.Writes := by rw [hinv.2.1, List.take_of_length_le hge2]
  have hal : h.Writes.all p = true := by rw [hinv.2.2, List.drop_eq_nil_of_le hge2]; rfl
  refine G0 ?_
  refine A2 ?_
  refine A1 rfl (F6 rfl (A0 rfl) B5 (by first | omega | (simp only [D1, A7, szR] at *; omega))) ?_
  refine A5 rfl ?_
  refine A4 ?_
  refine S9 q v1 k1 (q + 1) (v2) (k2) ?_ ?_ (Le.trans (K1 [1, 0] rfl) (M3 1 (by rfl) ⟨rfl, rfl, rfl, rfl, rfl, rfl, trivial⟩))
  ·exact ⟨by omega, by rw [hk2, hinv1.2.1, Am1 hh0]; simp [wKeys], by rw [hinv1.2.2, drop_some hh0, y7, List.all_append, hal]; rfl⟩
  omega
 intro h31
 have k31 := of_decide_eq_false h31; try simp only [A9] at k31
 have hge : held.length ≤ q := by omega
 have hk9 : k1 = cKeys s.Cells ++ wKeys (hWs held) := by rw [hinv.2.1, List.take_of_length_le hge]
 have hal9 : (hWs held).all p = true := by rw [hinv.2.2, List.drop_eq_nil_of_le hge]; rfl
 have hln := Am3 s.Cells.length held.length hs1 hh
 rw [List.take_length, List.take_length, ← hk9] at hln
 have hre : room s.Cells (hWs held) = decide ((cmpL (sortS k1)).length ≤ 24) := by (unfold room roomKs keysI; rw [← hp, hal9, ← hk9]; rfl)
 refine G0 ?_
 refine A3 (A2 ?_)
 refine A5 rfl ?_
 refine g8 [0] rfl rfl rfl rfl Tryz.call189 rfl (Am0 _ k1 (by omega)) (A8 (A0 rfl) C6) rfl ?_
 intro x68 ok68
 refine A4 (A3 (A2 ?_))
 refine A5 rfl ?_
 refine A1 rfl (G5 rfl E4 (A0 rfl)) ?_
 refine A1 rfl (S1 rfl (A0 rfl) B5) ?_
 refine A5 rfl ?_
 refine C4 rfl (fun hc => B7 rfl (A0 rfl)) ?_
 refine AT0 rfl rfl (H0 rfl rfl rfl) ?_ ?_
 ·intro gh74
  refine g8 [0] rfl rfl rfl rfl Tryz.call190 rfl (Aa1 _ (sortS k1) (by rw [AK1]; omega)) (A8 (A6 rfl gh74) C6) rfl ?_
  intro x74 ok74
  refine C4 rfl (fun hc => e9 0 rfl E5 (A0 rfl) rfl) ?_
  refine C4 rfl (fun hc => S1 rfl (A6 rfl hc) B5) ?_
  refine A1 rfl (G8 rfl (A0 rfl) (F1 rfl)) ?_
  refine B4 rfl ?_
  refine A4 ?_
  refine C2 ?_
  exact G1 rfl (B8 rfl (by first | exact congrArg AV.bool (by rw [hro]; simp) | exact congrArg AV.bool (by rw [hre, Bool.eq_iff_iff]; simp only [Bool.and_eq_true, decide_eq_true_eq, decide_eq_false_iff_not, A9, Bool.false_eq_true, and_false, false_and, false_iff] at *; omega)))
 intro gh74
 refine AT0 rfl rfl (H0 rfl rfl rfl) (fun hq => by rw [gh74] at hq; cases hq) (fun _ => ?_)
 refine AT0 rfl rfl (H0 rfl rfl rfl) (fun hq => by rw [gh74] at hq; cases hq) (fun _ => ?_)
 refine A1 rfl (G8 rfl (A0 rfl) (evif_no (x := AV.bool false) gh74)) ?_
 refine B4 rfl ?_
 refine A4 ?_
 refine C2 ?_
 exact G1 rfl (B8 rfl (by first | exact congrArg AV.bool (by rw [hro]; simp) | exact congrArg AV.bool (by rw [hre, Bool.eq_iff_iff]; simp only [Bool.and_eq_true, decide_eq_true_eq, decide_eq_false_iff_not, A9, Bool.false_eq_true, and_false, false_and, false_iff] at *; omega)))
theorem Ah0 (h k : THeld) (h1 : h.Writes.length ≤ 4611686018427387903) (ha : adj wLess h.Writes = true) (hk : adj wLess k.Writes = true ∧ k.Writes.length ≤ 4611686018427387903) : FSpec Tryz.prog 139 [AV.agg k.cs, AV.eptr h.cs] (AV.bool (clash h k)) := by
 obtain ⟨ka, k1⟩ := hk
 refine D8 Tryz.func139 rfl Tryz.ntmps139 rfl ?_
 refine A3 (A2 ?_)
 refine L6 rfl rfl rfl rfl (A0 rfl) ?_
 intro b2
 refine A1 rfl (B3 rfl F0) ?_
 refine A4 (A3 (A2 ?_))
 refine A1 rfl (J0 rfl (A0 rfl) J9 D9) ?_
 refine A1 rfl (I5 0 rfl (A0 rfl) rfl J9 D9 rfl) ?_
 refine A1 rfl (D7 rfl Tryz.call140 rfl (Ay3 _ _ (by first | assumption | omega) (by first | assumption | omega) (by assumption) (by assumption)) (A8 (A0 rfl) (A8 (A0 rfl) C6))) ?_
 refine B4 rfl ?_
 refine A4 ?_
 refine C2 ?_
 exact G1 rfl (B8 rfl (by first | rfl | (refine congrArg AV.bool ?_; simp_all; done)))
theorem Ah1 (h : THeld) (s : TState) (w : TWrite) (ho : CellsOk s.Cells) (hs : sizeL TCell.size s.Cells ≤ 1048576) : FSpec Tryz.prog 142 [AV.agg w.cs, AV.eptr h.cs, AV.eptr s.cs] (AV.bool (decide (h.Time ≤ lastTime s.Cells w.Key))) := by
 refine D8 Tryz.func142 rfl Tryz.ntmps142 rfl ?_
 refine A3 (A2 ?_)
 refine L6 rfl rfl rfl rfl (A0 rfl) ?_
 intro b3
 refine A1 rfl (B3 rfl F0) ?_
 refine A4 (A3 ?_)
 refine I3 (by kernel_rfl) (by kernel_rfl) rfl ?_
 refine B1 rfl rfl (R7 rfl E8 rfl B9 (A0 rfl) rfl) ?_
 refine B1 rfl rfl (L3 rfl (A0 rfl) C1 rfl) ?_
 refine B1 rfl rfl (R7 rfl D2 rfl M4 (A0 rfl) rfl) ?_
 refine B1 rfl rfl (L3 rfl (A0 rfl) O9 rfl) ?_
 refine B1 rfl rfl (B2 0 rfl I0 rfl E3 (A0 rfl) rfl) ?_
 refine B1 rfl rfl (B0 0 rfl (A0 rfl) rfl F5 rfl) ?_
 refine B1 rfl rfl (D7 rfl Tryz.call92 rfl (AI7 _ _ (by first | assumption | exact T9 (by assumption)) (by first | assumption | omega)) (A8 (A0 rfl) (A8 (A0 rfl) C6))) ?_
 refine B1 rfl rfl (S1 rfl (A0 rfl) (A0 rfl)) ?_
 refine B1 rfl rfl (B3 rfl (A0 rfl)) ?_
 refine P0 ?_
 refine C2 ?_
 exact G1 rfl (B8 rfl (by first | rfl | (refine congrArg AV.bool ?_; simp_all; done)))
theorem Am4 (s : TState) (hg : goodCells s.Cells = true) (hs : s.size ≤ 1048576) : FSpec Tryz.prog 91 [AV.agg s.cs] (AV.bool (areHeld s)) := by
 obtain ⟨hs1, hs2, hs3, hs4, hs5⟩ := U9 hs
 have hco := T9 hg
 refine D8 Tryz.func91 rfl Tryz.ntmps91 rfl ?_
 refine A3 (A2 ?_)
 refine L6 rfl rfl rfl rfl (A0 rfl) ?_
 intro b1
 refine A1 rfl (B3 rfl F0) ?_
 refine A4 (A3 (A3 (A2 ?_)))
 refine A1 rfl (B2 2 rfl D2 rfl I6 (A0 rfl) rfl) ?_
 refine A1 rfl (B0 0 rfl (A0 rfl) rfl L8 rfl) ?_
 refine A1 rfl (G5 rfl E4 (A0 rfl)) ?_
 refine A1 rfl (B7 rfl B5) ?_
 refine A4 (D0 ?_)
 refine H4 [(1, _), (6, _), (7, _)] _ (fun (i : Nat) => i ≤ s.Held.length ∧ ∀ j, j < i → heldAt s j = true) (fun (i : Nat) => []) (fun (i : Nat) => [(8, AV.int i)]) (fun (i : Nat) => s.Held.length - i) (0) ?_ (H8 ⟨rfl, rfl, rfl, rfl, trivial⟩) ?_
 ·exact ⟨Nat.zero_le _, fun j hj => by omega⟩
 intro i hinv
 refine A3 (A2 ?_)
 refine A1 rfl (I4 rfl (A0 rfl) (A0 rfl)) ?_
 refine A4 (A3 ?_)
 refine C3 (A0 rfl) ?_ ?_
 ·intro h9
  have k9 := of_decide_eq_true h9; try simp only [A9] at k9
  have hlt : i < s.Held.length := by omega
  obtain ⟨h, hx⟩ := get_some hlt
  obtain ⟨y, hy⟩ := get_some (show i - 1 < s.Held.length by omega)
  obtain ⟨g1, g2, g3, g4, g5⟩ := X4 hs2 hx
  refine C8 (A3 (D0 (A3 (A2 ?_))))
  refine A5 rfl ?_
  refine A1 rfl (H5 rfl E4 D9 (A0 rfl) (A0 rfl) hx (by first | omega | (simp only [D1, A7, szR] at *; omega))) ?_
  refine A1 rfl (J0 rfl (A0 rfl) J9 D9) ?_
  refine H3 rfl rfl rfl rfl Tryz.zeroValue141 rfl ?_
  intro b4
  refine B4 rfl ?_
  refine E9 0 rfl rfl rfl (A0 rfl) (A0 rfl) (F9 _) rfl D9 rfl ?_
  refine A4 (A3 (A3 ?_))
  refine I3 (by kernel_rfl) (by kernel_rfl) rfl ?_
  refine B1 rfl rfl (I5 0 rfl (A0 rfl) rfl J9 D9 rfl) ?_
  refine B1 rfl rfl (D7 rfl Tryz.call137 rfl (rec_spec _) (A8 (A0 rfl) C6)) ?_
  refine B1 rfl rfl (D7 rfl Tryz.call136 rfl (Al7 _ (by first | assumption | omega)) (A8 (A0 rfl) C6)) ?_
  refine B1 rfl rfl (K3 rfl (A0 rfl)) ?_
  refine B1 rfl rfl (B7 rfl (A0 rfl)) ?_
  refine C5 rfl (G2 rfl rfl rfl) (fun hc => B2 1 rfl E8 rfl B9 (A0 rfl) rfl) ?_
  refine C5 rfl (G2 rfl rfl rfl) (fun hc => B0 0 rfl (A6 rfl hc) rfl C1 rfl) ?_
  refine C5 rfl (G2 rfl rfl rfl) (fun hc => B2 0 rfl D2 rfl B9 (A0 rfl) rfl) ?_
  refine C5 rfl (G2 rfl rfl rfl) (fun hc => B0 1 rfl (A6 rfl hc) rfl C1 rfl) ?_
  refine C5 rfl (G2 rfl rfl rfl) (fun hc => N6 rfl (A6 rfl hc) (A6 rfl hc)) ?_
  refine B1 rfl rfl (P9 rfl (A0 rfl) (F1 rfl)) ?_
  refine B1 rfl rfl (B7 rfl (A0 rfl)) ?_
  refine C5 rfl (G2 rfl rfl rfl) (fun hc => B7 rfl (A0 rfl)) ?_
  refine C5 rfl (G2 rfl rfl rfl) (fun hc => N6 rfl (A6 rfl hc) B5) ?_
  refine C5 rfl (G2 rfl rfl rfl) (fun hc => B7 rfl (A6 rfl hc)) ?_
  refine C5 rfl (D6 rfl rfl rfl) (fun hc => B2 0 rfl E8 rfl B9 (A0 rfl) rfl) ?_
  refine C5 rfl (D6 rfl rfl rfl) (fun hc => B0 0 rfl (A6 rfl hc) rfl C1 rfl) ?_
  refine C5 rfl (D6 rfl rfl rfl) (fun hc => B2 2 rfl D2 rfl I6 (A0 rfl) rfl) ?_
  refine C5 rfl (D6 rfl rfl rfl) (fun hc => B0 1 rfl (A6 rfl hc) rfl L8 rfl) ?_
  refine C5 rfl (D6 rfl rfl rfl) (fun hc => B7 rfl (A0 rfl)) ?_
  refine C5 rfl (D6 rfl rfl rfl) (fun hc => Q5 rfl (A6 rfl hc) B5 (by first | omega | ((try simp only [D1, A7, szR] at *); omega) | (have hc2 := hc; simp only [M7, beq_iff_eq, bne_iff_ne, A9, E6] at hc2; omega))) ?_
  refine C5 rfl (D6 rfl rfl rfl) (fun hc => H5 rfl E4 D9 (A6 rfl hc) (A6 rfl hc) hy (by first | omega | ((try simp only [D1, A7, szR] at *); omega) | (have hc2 := hc; simp only [M7, beq_iff_eq, bne_iff_ne, A9, E6] at hc2; omega))) ?_
  refine C5 rfl (D6 rfl rfl rfl) (fun hc => R7 rfl E8 rfl B9 (A6 rfl hc) rfl) ?_
  refine C5 rfl (D6 rfl rfl rfl) (fun hc => L3 rfl (A6 rfl hc) C1 rfl) ?_
  refine C5 rfl (D6 rfl rfl rfl) (fun hc => S1 rfl (A6 rfl hc) (A6 rfl hc)) ?_
  refine C5 rfl (G2 rfl rfl rfl) (fun hc => G8 rfl (A6 rfl hc) (O5 rfl hc)) ?_
  refine B1 rfl rfl (P9 rfl (A0 rfl) (F1 rfl)) ?_
  refine P0 ?_
  refine C3 (A0 rfl) ?_ ?_
  ·intro h39
   have hfin : areHeld s = false := by (unfold areHeld; rw [U7 hlt (by rw [r8 hx hy, h39]; rfl)]; rfl)
   refine A3 (A2 ?_)
   refine A1 rfl (B3 rfl F0) ?_
   refine A4 ?_
   refine C2 ?_
   exact G1 rfl (B8 rfl (by first | exact congrArg AV.bool hfin.symm | exact congrArg AV.bool (by unfold areHeld; rw [hall]; rfl)))
  intro h39
  have hgr : goodRec (hRec h) = true := by (simp only [Bool.or_eq_false_iff, Bool.not_eq_false'] at h39; exact h39.1.1)
  have hwa := AT3 hgr
  have hwl : h.Writes.length ≤ 4611686018427387903 := by omega
  have hpre : ∀ g ∈ s.Held.take i, adj wLess g.Writes = true ∧ g.Writes.length ≤ 4611686018427387903 := fun g hm => by (obtain ⟨j, hj⟩ := List.getElem?_of_mem hm; have hjl := (List.getElem?_eq_some_iff.1 hj).1; rw [E6] at hjl; rw [List.getElem?_take_of_lt (by omega)] at hj; have k1 := X4 hs2 hj; exact ⟨AT3 (AQ9 hj (hinv.2 j (by omega))).1, by omega⟩)
  refine C8 (A3 (A3 (A2 ?_)))
  refine A1 rfl (B2 2 rfl D2 rfl I6 (A0 rfl) rfl) ?_
  refine A1 rfl (B0 1 rfl (A0 rfl) rfl L8 rfl) ?_
  refine A5 rfl ?_
  refine A1 rfl (AA5 rfl E4 D9 (A0 rfl) (A0 rfl) (by first | omega | (simp only [D1, A7, szR] at *; omega)) (by first | omega | (simp only [D1, A7, szR] at *; omega))) ?_
  refine A1 rfl (w_clo rfl rfl (A8 (A0 rfl) C6)) ?_
  refine A1 rfl (n1 rfl Tryz.call138 rfl (AD9 (s.Held.take i) (fun g => adj wLess g.Writes = true ∧ g.Writes.length ≤ 4611686018427387903) (fun g => clash h g) hpre) (C7 _) (R8 (evb (A0 rfl)) (R8 (AF3 (evb_clo1 0 (A0 rfl) rfl) (AR8 Tryz.call139 (fun g hg => Ah0 _ g (by first | assumption | omega) (by assumption) hg))) W5))) ?_
  refine A4 ?_
  refine C3 (A0 rfl) ?_ ?_
  ·intro h45
   have hfin : areHeld s = false := by (unfold areHeld; rw [U7 hlt (by rw [r8 hx hy, h45]; simp)]; rfl)
   refine A3 (A2 ?_)
   refine A1 rfl (B3 rfl F0) ?_
   refine A4 ?_
   refine C2 ?_
   exact G1 rfl (B8 rfl (by first | exact congrArg AV.bool hfin.symm | exact congrArg AV.bool (by unfold areHeld; rw [hall]; rfl)))
  intro h45
  refine C8 (A3 (A2 ?_))
  refine A1 rfl (B2 4 rfl E8 rfl K4 (A0 rfl) rfl) ?_
  refine A1 rfl (B0 0 rfl (A0 rfl) rfl L2 rfl) ?_
  refine A1 rfl (w_clo rfl rfl (A8 (A0 rfl) (A8 (A0 rfl) C6))) ?_
  refine A1 rfl (n1 rfl Tryz.call141 rfl (X8 _ _ _ (by first | (intros; trivial) | assumption | (intros; first | trivial | (simp_all; done)))) (C7 _) (R8 (evb (A0 rfl)) (R8 (AF3 (Aj5 0 1 (A0 rfl) rfl rfl) (AR8 Tryz.call142 (fun w (_ : True) => Ah1 _ _ w (by assumption) (by first | assumption | omega)))) W5))) ?_
  refine A4 ?_
  refine C3 (A0 rfl) ?_ ?_
  ·intro h49
   have hfin : areHeld s = false := by (unfold areHeld; rw [U7 hlt (by rw [r8 hx hy, h49]; simp)]; rfl)
   refine A3 (A2 ?_)
   refine A1 rfl (B3 rfl F0) ?_
   refine A4 ?_
   refine C2 ?_
   exact G1 rfl (B8 rfl (by first | exact congrArg AV.bool hfin.symm | exact congrArg AV.bool (by unfold areHeld; rw [hall]; rfl)))
  intro h49
  refine C8 (A2 ?_)
  refine A1 rfl (F6 rfl (A0 rfl) B5 (by first | omega | (simp only [D1, A7, szR] at *; omega))) ?_
  refine A5 rfl ?_
  refine A4 ?_
  refine J3 i (i + 1) ?_ ?_ (S0 1 ⟨rfl, rfl, rfl, rfl, trivial⟩)
  ·exact ⟨by omega, fun j hj => if hji : j < i then hinv.2 j hji else (by have e : j = i := (by omega); subst e; rw [r8 hx hy, h39, h45, h49]; rfl)⟩
  omega
 intro h9
 have k9 := of_decide_eq_false h9; try simp only [A9] at k9
 have hge : s.Held.length ≤ i := by omega
 have hall : allB s.Held.length (heldAt s) = true := c9.2 fun j hj => hinv.2 j (by omega)
 refine G0 ?_
 refine A3 (A2 ?_)
 refine A1 rfl (I5 0 rfl (A0 rfl) rfl G7 E1 rfl) ?_
 refine A1 rfl (B2 2 rfl D2 rfl I6 (A0 rfl) rfl) ?_
 refine A1 rfl (B0 0 rfl (A0 rfl) rfl L8 rfl) ?_
 refine A1 rfl (D7 rfl Tryz.call143 rfl (BC5 _ _ (by assumption) (by first | assumption | omega) (by first | assumption | omega)) (A8 (A0 rfl) (A8 (A0 rfl) C6))) ?_
 refine B4 rfl ?_
 refine A4 ?_
 refine C2 ?_
 exact G1 rfl (B8 rfl (by first | exact congrArg AV.bool hfin.symm | exact congrArg AV.bool (by unfold areHeld; rw [hall]; rfl)))
theorem Aa3 (h : THeld) (n : Int) : FSpec Tryz.prog 145 [AV.agg h.cs, AV.int n] (AV.int (hCmp n h)) := by
 refine D8 Tryz.func145 rfl Tryz.ntmps145 rfl ?_
 refine A3 (A2 ?_)
 refine L6 rfl rfl rfl rfl (A0 rfl) ?_
 intro b2
 refine A1 rfl (B3 rfl B5) ?_
 refine A4 (A3 (A2 ?_))
 refine A1 rfl (B2 0 rfl E8 rfl B9 (A0 rfl) rfl) ?_
 refine A1 rfl (B0 0 rfl (A0 rfl) rfl C1 rfl) ?_
 refine A5 rfl ?_
 refine A1 rfl (D7 rfl Tryz.call104 rfl (AC6 _ _) (A8 (A0 rfl) (A8 (A0 rfl) C6))) ?_
 refine B4 rfl ?_
 refine A4 ?_
 refine C2 ?_
 exact G1 rfl (B8 rfl (by first | rfl | (refine congrArg AV.bool ?_; simp_all; done)))
theorem Am5 (f : Int) (c t : List (List AV)) (l : List THeld) (n : Int) (hs : l.length ≤ 1048576) : FSpec Tryz.prog 94 [AV.agg [AV.int f, AV.list 2 c, AV.list 5 (l.map THeld.cs), AV.list 3 t], AV.int n] (AV.tup [AV.int (hPos l n), AV.bool (hHas l n)]) := by
 refine D8 Tryz.func94 rfl Tryz.ntmps94 rfl ?_
 refine A3 (A2 ?_)
 refine L6 rfl rfl rfl rfl (A0 rfl) ?_
 intro b2
 refine A1 rfl (B3 rfl B5) ?_
 refine A1 rfl (B3 rfl F0) ?_
 refine A4 (A3 (A2 ?_))
 refine A1 rfl (B2 2 rfl D2 rfl I6 (A0 rfl) rfl) ?_
 refine A1 rfl (B0 0 rfl (A0 rfl) rfl L8 rfl) ?_
 refine A5 rfl ?_
 refine A1 rfl (D7 rfl Tryz.call144 rfl (AE1 _ _ _ (by first | (intros; trivial) | assumption | (intros; first | trivial | (simp_all; done))) _ (by omega)) (A8 (A0 rfl) (A8 (A0 rfl) (A8 (AY5 Tryz.call145 (fun h n (_ : True) => Aa3 h n)) C6)))) ?_
 refine A1 rfl (I1 rfl (A0 rfl) rfl) ?_
 refine A1 rfl (I1 rfl (A0 rfl) rfl) ?_
 refine B4 rfl ?_
 refine B4 rfl ?_
 refine A4 ?_
 refine C2 ?_
 exact T7 rfl (by decide) (F2 (B8 rfl (by first | rfl | (refine congrArg AV.bool ?_; simp_all; done))) (F2 (B8 rfl (by first | rfl | (refine congrArg AV.bool ?_; simp_all; done))) L5))
theorem Ah2 (s : TState) (n : Int) (hs : s.Held.length ≤ 1048576) : FSpec Tryz.prog 94 [AV.agg s.cs, AV.int n] (AV.tup [AV.int (hPos s.Held n), AV.bool (hHas s.Held n)]) := Am5 _ _ _ s.Held n hs
theorem Aa4 (s : TState) (hs : s.size ≤ 1048576) : FSpec Tryz.prog 50 [AV.agg s.cs] (AV.bool (goodState s)) := by
 obtain ⟨hs1, hs2, hs3, hs4, hs5⟩ := U9 hs
 refine D8 Tryz.func50 rfl Tryz.ntmps50 rfl ?_
 refine A3 (A2 ?_)
 refine L6 rfl rfl rfl rfl (A0 rfl) ?_
 intro b1
 refine A1 rfl (B3 rfl F0) ?_
 refine A4 (A3 (A3 (A2 ?_)))
 refine A1 rfl (B2 0 rfl D2 rfl B9 (A0 rfl) rfl) ?_
 refine A1 rfl (B0 0 rfl (A0 rfl) rfl C1 rfl) ?_
 refine A1 rfl (D7 rfl Tryz.call52 rfl (AQ3 _) (A8 (A0 rfl) C6)) ?_
 refine A1 rfl (K3 rfl (A0 rfl)) ?_
 refine A5 rfl ?_
 refine H2 rfl (fun hc => B2 1 rfl D2 rfl M4 (A0 rfl) rfl) ?_
 refine H2 rfl (fun hc => B0 0 rfl (A6 rfl hc) rfl O9 rfl) ?_
 refine H2 rfl (fun hc => D7 rfl Tryz.call77 rfl (AZ9 _ (by first | assumption | omega)) (A8 (A6 rfl hc) C6)) ?_
 refine H2 rfl (fun hc => K3 rfl (A6 rfl hc)) ?_
 refine A1 rfl (P9 rfl (A0 rfl) (F1 rfl)) ?_
 refine A5 rfl ?_
 refine H2 rfl (fun hc => I5 0 rfl (A0 rfl) rfl G7 E1 rfl) ?_
 refine H2 rfl (fun hc => D7 rfl Tryz.call91 rfl (Am4 s (by have h9 := hc; simp at h9; exact h9.2) hs) (A8 (A6 rfl hc) C6)) ?_
 refine H2 rfl (fun hc => K3 rfl (A6 rfl hc)) ?_
 refine A1 rfl (P9 rfl (A0 rfl) (F1 rfl)) ?_
 refine A5 rfl ?_
 refine H2 rfl (fun hc => B2 3 rfl D2 rfl Q8 (A0 rfl) rfl) ?_
 refine H2 rfl (fun hc => B0 0 rfl (A6 rfl hc) rfl T6 rfl) ?_
 refine H2 rfl (fun hc => G5 rfl J1 (A6 rfl hc)) ?_
 refine H2 rfl (fun hc => N6 rfl (A6 rfl hc) B5) ?_
 refine A1 rfl (P9 rfl (A0 rfl) (F1 rfl)) ?_
 refine A4 ?_
 refine C3 (A0 rfl) ?_ ?_
 ·intro h30
  have hfin : goodState s = false := by (unfold goodState; simp only [Bool.or_eq_true, Bool.not_eq_true', decide_eq_true_eq, A9] at h30; rcases h30 with ((h | h) | h) | h; (rw [h]; rfl); (rw [h]; simp); (rw [h]; simp); (rw [decide_eq_false (show ¬ s.Told.length ≤ 60 by omega)]; simp))
  refine A3 (A2 ?_)
  refine A1 rfl (B3 rfl F0) ?_
  refine A4 ?_
  refine C2 ?_
  exact G1 rfl (B8 rfl (by exact congrArg AV.bool hfin.symm))
 intro h30
 simp only [Bool.or_eq_false_iff, Bool.not_eq_false', decide_eq_false_iff_not, A9] at h30
 obtain ⟨⟨⟨q1, q2⟩, q3⟩, q4⟩ := h30
 have hco := T9 q2
 have hsrt := Am2 q3
 have hgs : goodState s = ((s.Cells.all fun c => decide (lastTime s.Cells c.Key ≤ s.Floor)) && allB s.Told.length (toldAt s)) := by (unfold goodState; rw [q1, q2, q3, decide_eq_true (show s.Told.length ≤ 60 by omega)]; simp)
 refine C8 (A3 (A3 (A2 ?_)))
 refine A1 rfl (B2 1 rfl D2 rfl M4 (A0 rfl) rfl) ?_
 refine A1 rfl (B0 0 rfl (A0 rfl) rfl O9 rfl) ?_
 refine A1 rfl (G5 rfl E2 (A0 rfl)) ?_
 refine A1 rfl (B7 rfl B5) ?_
 refine A4 (D0 ?_)
 refine H4 [(1, _), (32, _), (33, _)] _ (fun (i : Nat) => i ≤ s.Cells.length ∧ (s.Cells.all fun c => decide (lastTime s.Cells c.Key ≤ s.Floor)) = ((s.Cells.drop i).all fun c => decide (lastTime s.Cells c.Key ≤ s.Floor))) (fun (i : Nat) => []) (fun (i : Nat) => [(34, AV.int i)]) (fun (i : Nat) => s.Cells.length - i) (0) ?_ (H8 ⟨rfl, rfl, rfl, rfl, trivial⟩) ?_
 ·exact ⟨Nat.zero_le _, rfl⟩
 intro i hinv
 refine A3 (A2 ?_)
 refine A1 rfl (I4 rfl (A0 rfl) (A0 rfl)) ?_
 refine A4 (A3 ?_)
 refine C3 (A0 rfl) ?_ ?_
 ·intro h35
  have k35 := of_decide_eq_true h35; try simp only [A9] at k35
  have hlt : i < s.Cells.length := by omega
  obtain ⟨c, hx⟩ := get_some hlt
  refine C8 (A3 (D0 (A3 (A2 ?_))))
  refine A1 rfl (H5 rfl E2 F3 (A0 rfl) (A0 rfl) hx (by first | omega | (simp only [D1, A7, szR] at *; omega))) ?_
  refine A1 rfl (J0 rfl (A0 rfl) R5 F3) ?_
  refine H3 rfl rfl rfl rfl Tryz.zeroValue125 rfl ?_
  intro b4
  refine E9 0 rfl rfl rfl (A0 rfl) (A0 rfl) (F9 _) rfl F3 rfl ?_
  refine A4 (A3 ?_)
  refine I3 (by kernel_rfl) (by kernel_rfl) rfl ?_
  refine B1 rfl rfl (B2 1 rfl D2 rfl M4 (A0 rfl) rfl) ?_
  refine B1 rfl rfl (B0 1 rfl (A0 rfl) rfl O9 rfl) ?_
  refine B1 rfl rfl (B2 0 rfl F8 rfl E3 (A0 rfl) rfl) ?_
  refine B1 rfl rfl (B0 0 rfl (A0 rfl) rfl F5 rfl) ?_
  refine B1 rfl rfl (D7 rfl Tryz.call92 rfl (AI7 _ _ (by first | assumption | exact T9 (by assumption)) (by first | assumption | omega)) (A8 (A0 rfl) (A8 (A0 rfl) C6))) ?_
  refine B1 rfl rfl (B2 0 rfl D2 rfl B9 (A0 rfl) rfl) ?_
  refine B1 rfl rfl (B0 1 rfl (A0 rfl) rfl C1 rfl) ?_
  refine B1 rfl rfl (N6 rfl (A0 rfl) (A0 rfl)) ?_
  refine P0 ?_
  refine C3 (A0 rfl) ?_ ?_
  ·intro h45
   have k45 := of_decide_eq_true h45; try simp only [A9] at k45
   have hfin : goodState s = false := by (rw [hgs, hinv.2, drop_some hx, List.all_cons, decide_eq_false (show ¬ lastTime s.Cells c.Key ≤ s.Floor by omega)]; rfl)
   refine A3 (A2 ?_)
   refine A1 rfl (B3 rfl F0) ?_
   refine A4 ?_
   refine C2 ?_
   exact G1 rfl (B8 rfl (by exact congrArg AV.bool hfin.symm))
  intro h45
  have k45 := of_decide_eq_false h45; try simp only [A9] at k45
  refine C8 (A2 ?_)
  refine A1 rfl (F6 rfl (A0 rfl) B5 (by first | omega | (simp only [D1, A7, szR] at *; omega))) ?_
  refine A5 rfl ?_
  refine A4 ?_
  refine J3 i (i + 1) ?_ ?_ (S0 1 ⟨rfl, rfl, rfl, rfl, trivial⟩)
  ·exact ⟨by omega, by rw [hinv.2, drop_some hx, List.all_cons, decide_eq_true (show lastTime s.Cells c.Key ≤ s.Floor by omega)]; rfl⟩
  omega
 intro h35
 have k35 := of_decide_eq_false h35; try simp only [A9] at k35
 have hge : s.Cells.length ≤ i := by omega
 have hgs2 : goodState s = allB s.Told.length (toldAt s) := by (rw [hgs, hinv.2, List.drop_eq_nil_of_le hge]; rfl)
 refine G0 ?_
 refine A3 (A3 (A2 ?_))
 refine A1 rfl (B2 3 rfl D2 rfl Q8 (A0 rfl) rfl) ?_
 refine A1 rfl (B0 0 rfl (A0 rfl) rfl T6 rfl) ?_
 refine A1 rfl (G5 rfl J1 (A0 rfl)) ?_
 refine A1 rfl (B7 rfl B5) ?_
 refine A4 (D0 ?_)
 refine H4 [(1, _), (48, _), (49, _)] _ (fun (q : Nat) => q ≤ s.Told.length ∧ ∀ j, j < q → toldAt s j = true) (fun (q : Nat) => []) (fun (q : Nat) => [(50, AV.int q)]) (fun (q : Nat) => s.Told.length - q) (0) ?_ (H8 ⟨rfl, rfl, rfl, rfl, trivial⟩) ?_
 ·exact ⟨Nat.zero_le _, fun j hj => by omega⟩
 intro q hinv
 refine A3 (A2 ?_)
 refine A1 rfl (I4 rfl (A0 rfl) (A0 rfl)) ?_
 refine A4 (A3 ?_)
 refine C3 (A0 rfl) ?_ ?_
 ·intro h51
  have k51 := of_decide_eq_true h51; try simp only [A9] at k51
  have hlt : q < s.Told.length := by omega
  obtain ⟨t, hx⟩ := get_some hlt
  obtain ⟨y, hy⟩ := get_some (show q - 1 < s.Told.length by omega)
  refine C8 (A3 (D0 (A3 (A2 ?_))))
  refine A5 rfl ?_
  refine A1 rfl (H5 rfl J1 K6 (A0 rfl) (A0 rfl) hx (by first | omega | (simp only [D1, A7, szR] at *; omega))) ?_
  refine A1 rfl (J0 rfl (A0 rfl) W8 K6) ?_
  refine H3 rfl rfl rfl rfl Tryz.zeroValue144 rfl ?_
  intro b6
  refine B4 rfl ?_
  refine E9 0 rfl rfl rfl (A0 rfl) (A0 rfl) (F9 _) rfl K6 rfl ?_
  refine A4 (A3 (A2 ?_))
  refine A1 rfl (B2 1 rfl K0 rfl K2 (A0 rfl) rfl) ?_
  refine A1 rfl (B0 0 rfl (A0 rfl) rfl K7 rfl) ?_
  refine A5 rfl ?_
  refine C4 rfl (fun hc => B2 2 rfl K0 rfl B9 (A0 rfl) rfl) ?_
  refine C4 rfl (fun hc => B0 0 rfl (A6 rfl hc) rfl C1 rfl) ?_
  refine C4 rfl (fun hc => B2 0 rfl D2 rfl B9 (A0 rfl) rfl) ?_
  refine C4 rfl (fun hc => B0 1 rfl (A6 rfl hc) rfl C1 rfl) ?_
  refine C4 rfl (fun hc => D7 rfl Tryz.call82 rfl (U8 _ _ _) (A8 (A6 rfl hc) (A8 B5 (A8 (A6 rfl hc) C6)))) ?_
  refine A1 rfl (G8 rfl (A0 rfl) (F1 rfl)) ?_
  refine A5 rfl ?_
  refine H2 rfl (fun hc => B2 1 rfl K0 rfl K2 (A0 rfl) rfl) ?_
  refine H2 rfl (fun hc => B0 0 rfl (A6 rfl hc) rfl K7 rfl) ?_
  refine H2 rfl (fun hc => K3 rfl (A6 rfl hc)) ?_
  refine H2 rfl (fun hc => B7 rfl (A6 rfl hc)) ?_
  refine H6 rfl rfl (D6 rfl rfl rfl) (fun hc => B2 2 rfl K0 rfl B9 (A0 rfl) rfl) ?_
  refine H6 rfl rfl (D6 rfl rfl rfl) (fun hc => B0 0 rfl (A6 rfl hc) rfl C1 rfl) ?_
  refine H6 rfl rfl (D6 rfl rfl rfl) (fun hc => R6 rfl (A6 rfl hc) B5) ?_
  refine H2 rfl (fun hc => G8 rfl (A6 rfl hc) (O5 rfl hc)) ?_
  refine A1 rfl (P9 rfl (A0 rfl) (F1 rfl)) ?_
  refine B4 rfl ?_
  refine A4 (A3 (A3 ?_))
  refine I3 (by kernel_rfl) (by kernel_rfl) rfl ?_
  refine B1 rfl rfl (B2 0 rfl K0 rfl B9 (A0 rfl) rfl) ?_
  refine B1 rfl rfl (B0 0 rfl (A0 rfl) rfl C1 rfl) ?_
  refine B1 rfl rfl (D7 rfl Tryz.call93 rfl (p5 _) (A8 (A0 rfl) C6)) ?_
  refine B1 rfl rfl (K3 rfl (A0 rfl)) ?_
  refine B1 rfl rfl (B7 rfl (A0 rfl)) ?_
  refine C5 rfl (G2 rfl rfl rfl) (fun hc => B7 rfl (A0 rfl)) ?_
  refine C5 rfl (G2 rfl rfl rfl) (fun hc => K3 rfl (A6 rfl hc)) ?_
  refine B1 rfl rfl (P9 rfl (A0 rfl) (F1 rfl)) ?_
  refine B1 rfl rfl (B7 rfl (A0 rfl)) ?_
  refine C5 rfl (G2 rfl rfl rfl) (fun hc => B7 rfl (A0 rfl)) ?_
  refine C5 rfl (G2 rfl rfl rfl) (fun hc => N6 rfl (A6 rfl hc) B5) ?_
  refine C5 rfl (G2 rfl rfl rfl) (fun hc => B7 rfl (A6 rfl hc)) ?_
  refine C5 rfl (D6 rfl rfl rfl) (fun hc => B2 0 rfl K0 rfl B9 (A0 rfl) rfl) ?_
  refine C5 rfl (D6 rfl rfl rfl) (fun hc => B0 0 rfl (A6 rfl hc) rfl C1 rfl) ?_
  refine C5 rfl (D6 rfl rfl rfl) (fun hc => B2 3 rfl D2 rfl Q8 (A0 rfl) rfl) ?_
  refine C5 rfl (D6 rfl rfl rfl) (fun hc => B0 1 rfl (A6 rfl hc) rfl T6 rfl) ?_
  refine C5 rfl (D6 rfl rfl rfl) (fun hc => B7 rfl (A0 rfl)) ?_
  refine C5 rfl (D6 rfl rfl rfl) (fun hc => Q5 rfl (A6 rfl hc) B5 (by first | omega | ((try simp only [D1, A7, szR] at *); omega) | (have hc2 := hc; simp only [M7, beq_iff_eq, bne_iff_ne, A9, E6] at hc2; omega))) ?_
  refine C5 rfl (D6 rfl rfl rfl) (fun hc => H5 rfl J1 K6 (A6 rfl hc) (A6 rfl hc) hy (by first | omega | ((try simp only [D1, A7, szR] at *); omega) | (have hc2 := hc; simp only [M7, beq_iff_eq, bne_iff_ne, A9, E6] at hc2; omega))) ?_
  refine C5 rfl (D6 rfl rfl rfl) (fun hc => R7 rfl K0 rfl B9 (A6 rfl hc) rfl) ?_
  refine C5 rfl (D6 rfl rfl rfl) (fun hc => L3 rfl (A6 rfl hc) C1 rfl) ?_
  refine C5 rfl (D6 rfl rfl rfl) (fun hc => S1 rfl (A6 rfl hc) (A6 rfl hc)) ?_
  refine C5 rfl (G2 rfl rfl rfl) (fun hc => G8 rfl (A6 rfl hc) (O5 rfl hc)) ?_
  refine B1 rfl rfl (P9 rfl (A0 rfl) (F1 rfl)) ?_
  refine P0 ?_
  refine C3 (A0 rfl) ?_ ?_
  ·intro h97
   have hfin : goodState s = false := by (rw [hgs2]; exact U7 hlt (by rw [AB2 hx hy, h97]; rfl))
   refine A3 (A2 ?_)
   refine A1 rfl (B3 rfl F0) ?_
   refine A4 ?_
   refine C2 ?_
   exact G1 rfl (B8 rfl (by exact congrArg AV.bool hfin.symm))
  intro h97
  refine C8 (A3 (A2 ?_))
  refine A1 rfl (I5 1 rfl (A0 rfl) rfl G7 E1 rfl) ?_
  refine A1 rfl (B2 0 rfl K0 rfl B9 (A0 rfl) rfl) ?_
  refine A1 rfl (B0 0 rfl (A0 rfl) rfl C1 rfl) ?_
  refine A1 rfl (D7 rfl Tryz.call94 rfl (Ah2 _ _ (by first | assumption | omega)) (A8 (A0 rfl) (A8 (A0 rfl) C6))) ?_
  refine A5 rfl ?_
  refine A1 rfl (I1 rfl (A0 rfl) rfl) ?_
  refine A1 rfl (I1 rfl (A0 rfl) rfl) ?_
  refine B4 rfl ?_
  refine B4 rfl ?_
  refine A4 (A3 (A2 ?_))
  refine A5 rfl ?_
  refine A4 ?_
  refine C3 (A0 rfl) ?_ ?_
  ·intro h105
   have hfin : goodState s = false := by (rw [hgs2]; exact U7 hlt (by rw [AB2 hx hy, ← Av0 hsrt, h105]; simp))
   refine A3 (A2 ?_)
   refine A1 rfl (B3 rfl F0) ?_
   refine A4 ?_
   refine C2 ?_
   exact G1 rfl (B8 rfl (by exact congrArg AV.bool hfin.symm))
  intro h105
  refine C8 (A2 ?_)
  refine A1 rfl (F6 rfl (A0 rfl) B5 (by first | omega | (simp only [D1, A7, szR] at *; omega))) ?_
  refine A5 rfl ?_
  refine A4 ?_
  refine J3 q (q + 1) ?_ ?_ (S0 1 ⟨rfl, rfl, rfl, rfl, trivial⟩)
  ·exact ⟨by omega, fun j hj => if hji : j < q then hinv.2 j hji else (by have e : j = q := (by omega); subst e; rw [AB2 hx hy, h97, ← Av0 hsrt, h105]; rfl)⟩
  omega
 intro h51
 have k51 := of_decide_eq_false h51; try simp only [A9] at k51
 have hge : s.Told.length ≤ q := by omega
 have hfin : goodState s = true := by (rw [hgs2]; exact c9.2 fun j hj => hinv.2 j (by omega))
 refine G0 ?_
 refine A3 (A2 ?_)
 refine A1 rfl (B3 rfl F0) ?_
 refine A4 ?_
 refine C2 ?_
 exact G1 rfl (B8 rfl (by exact congrArg AV.bool hfin.symm))
end Go.Proofs.YtkegepoihkhihaaGreat

namespace Go.Proofs.YtkegepoihkhihaaGreat
open Go Go.AV Go.M
attribute [local irreducible] OpW OpA OpS AWP FSpec ESpec GSpec OpE RetOk RetOkG RvDen Le Ev GuardIs
def TRec.ow (c : TRec) (x : Value × Value) : List Own := [.arr x.1 9 1 (c.Reads.map (fun x => [AV.str x])), .arr x.2 101 3 (c.Writes.map TWrite.cs)]
theorem TRec.lc (c : TRec) (x : Value × Value) : LendC (TRec.ow c x) (TRec.ocs c x) c.cs := (H9 L0 (H9 L0 (H9 L0 (H9 L0 (H9 (Q4 (G6 (i := 0) rfl) L7) (H9 (Q4 (G6 (i := 1) rfl) L7) (H9 L0 V8)))))))
def TPlaces.ow (c : TPlaces) (x : Value × Value) : List Own := [.arr x.1 9 1 (c.Cuts.map (fun x => [AV.str x])), .arr x.2 3 1 (c.Groups.map (fun x => [AV.int x]))]
theorem TPlaces.lc (c : TPlaces) (x : Value × Value) : LendC (TPlaces.ow c x) (TPlaces.ocs c x) c.cs := (H9 L0 (H9 (Q4 (G6 (i := 0) rfl) L7) (H9 (Q4 (G6 (i := 1) rfl) L7) V8)))
def TMove.ow (c : TMove) (x : Value × Value) : List Own := [.arr x.1 101 3 (c.From.map TWrite.cs), .arr x.2 101 3 (c.To.map TWrite.cs)]
theorem TMove.lc (c : TMove) (x : Value × Value) : LendC (TMove.ow c x) (TMove.ocs c x) c.cs := (H9 L0 (H9 L0 (H9 L0 (H9 (Q4 (G6 (i := 0) rfl) L7) (H9 (Q4 (G6 (i := 1) rfl) L7) (H9 L0 (H9 L0 V8)))))))
end Go.Proofs.YtkegepoihkhihaaGreat

namespace Go.AV
section
variable {T X : Type} {cs : T → List AV} {ocs : T → X → List AV} {ow : T → X → List Own}
theorem BC6 {l : List T} {xs : List X} {i : Nat} {p : T} {x : X} (hi : i ≤ l.length) (h : xs.length = l.length) : (nrows ocs l xs).take i ++ ocs p x :: (nrows ocs l xs).drop i = nrows ocs (l.take i ++ p :: l.drop i) (xs.take i ++ x :: xs.drop i) := by
  unfold nrows
  rw [List.zipWith_append (by rw [E6, E6]; omega), List.zipWith_cons_cons, List.take_zipWith, List.drop_zipWith]
theorem nin_ins {l : List T} {xs : List X} {i : Nat} {p : T} {x : X} (hi : i ≤ l.length) (h : xs.length = l.length) : (ow p x ++ nin ow l xs).Perm (nin ow (l.take i ++ p :: l.drop i) (xs.take i ++ x :: xs.drop i)) := by
  have e : nin ow l xs = nin ow (l.take i) (xs.take i) ++ nin ow (l.drop i) (xs.drop i) := by
    unfold nin
    rw [← List.flatten_append, ← List.zipWith_append (by rw [E6, E6]; omega), List.take_append_drop, List.take_append_drop]
  have e2 : nin ow (l.take i ++ p :: l.drop i) (xs.take i ++ x :: xs.drop i) = nin ow (l.take i) (xs.take i) ++ (ow p x ++ nin ow (l.drop i) (xs.drop i)) := by
    unfold nin
    rw [List.zipWith_append (by rw [E6, E6]; omega), List.zipWith_cons_cons, List.flatten_append, List.flatten_cons]
  rw [e, e2, ← List.append_assoc, ← List.append_assoc]
  exact List.Perm.append_right _ List.perm_append_comm
theorem Am6 {X : Type} {xs : List X} {i : Nat} {x : X} (hi : i ≤ xs.length) : (xs.take i ++ x :: xs.drop i).length = xs.length + 1 := by
  rw [J4, J7, E6, List.length_drop]; omega
end
end Go.AV
namespace Go.Proofs.YtkegepoihkhihaaGreat
open Go Go.AV Go.M
attribute [local irreducible] OpW OpA OpS AWP FSpec ESpec GSpec OpE RetOk RetOkG RvDen Le Ev GuardIs SrcIs
def TCell.ow (c : TCell) (x : Value) : List Own := [.arr x 127 3 (c.Vers.map TVer.cs)]
theorem TCell.lcM {own : List Own} (c : TCell) (x : Value) (h : ∀ o ∈ TCell.ow c x, o ∈ own) : LendC own (TCell.ocs c x) c.cs := H9 L0 (H9 (Q4 (h _ (G6 (i := 0) rfl)) L7) V8)
theorem Ae3 (l : List TCell) (hs : sizeL TCell.size l ≤ 4194304) : GSpec Tryz.prog 224 [AV.list 2 (l.map TCell.cs)] [] (fun x : Value × List Value => x.2.length = l.length) (fun x => .arr x.1 125 2 (nrows TCell.ocs l x.2) :: nin TCell.ow l x.2) (fun x => AV.is x.1) := by
 have hl : l.length ≤ 4194304 := Nat.le_trans M9 hs
 refine N7 Tryz.func224 rfl Tryz.ntmps224 rfl ?_
 refine A3 (A2 ?_)
 refine A1 rfl (B3 rfl P8) ?_
 refine A4 (A3 (A2 ?_))
 refine AA4 125 2 rfl rfl rfl rfl P8 ?_
 intro v3
 refine A4 (A3 (A3 (A2 ?_)))
 refine A5 rfl ?_
 refine A1 rfl (G5 rfl E2 (A0 rfl)) ?_
 refine A1 rfl (B7 rfl B5) ?_
 refine A4 (D0 ?_)
 refine T5 [(2, _), (6, _), (7, _)] [] (fun (i : Nat) (v : Value) (xs : List Value) => i ≤ l.length ∧ xs.length = i) (fun (i : Nat) (v : Value) (xs : List Value) => [.arr v 125 2 (nrows TCell.ocs (l.take i) xs)] ++ (nin TCell.ow (l.take i) xs)) (fun (i : Nat) (v : Value) (xs : List Value) => [(3, AV.is v), (8, AV.int i)]) (fun (i : Nat) (v : Value) (xs : List Value) => l.length - i) (0) (v3) ([]) ?_ (Q3 (by rfl) ⟨rfl, rfl, rfl, rfl, rfl, trivial⟩) ?_
 ·exact ⟨Nat.zero_le _, rfl⟩
 intro i v xs hinv
 refine w4 (List.append_nil _) ?_
 refine A3 (A2 ?_)
 refine A1 rfl (I4 rfl (A0 rfl) (A0 rfl)) ?_
 refine A4 (A3 ?_)
 refine C3 (A0 rfl) ?_ ?_
 ·intro h9
  have k9 := of_decide_eq_true h9; try simp only [A9] at k9
  have hlt : i < l.length := by omega
  obtain ⟨x, hx⟩ := get_some hlt
  have hsx := i5 (Nat.le_trans (V2 hx) hs)
  refine C8 (A3 (D0 (A3 (A2 ?_))))
  refine A1 rfl (H5 rfl E2 F3 (A0 rfl) (A0 rfl) hx (by first | omega | (simp only [D1, A7, szR] at *; omega))) ?_
  refine A1 rfl (J0 rfl (A0 rfl) R5 F3) ?_
  refine H3 rfl rfl rfl rfl Tryz.zeroValue125 rfl ?_
  intro b5
  refine E9 0 rfl rfl rfl (A0 rfl) (A0 rfl) (F9 _) rfl F3 rfl ?_
  refine A4 ?_
  refine W4 _ [(0, false), (1, false), (2, false), (4, false), (5, false), (3, true), (6, true), (7, false), (8, false), (9, true)] (by kernel_rfl) (by kernel_rfl) rfl (j4 1) ?_
  refine J2 rfl rfl rfl (fun ext => B7 rfl (A0 rfl)) ?_
  refine J2 rfl rfl rfl (fun ext => B2 0 rfl F8 rfl E3 (A0 rfl) rfl) ?_
  refine J2 rfl rfl rfl (fun ext => B0 0 rfl (A0 rfl) rfl F5 rfl) ?_
  refine J2 rfl rfl rfl (fun ext => B2 1 rfl F8 rfl M8 (A0 rfl) rfl) ?_
  refine J2 rfl rfl rfl (fun ext => B0 0 rfl (A0 rfl) rfl P1 rfl) ?_
  refine U3 rfl rfl rfl (w7 2 <| X2 rfl I7 L1) (fun a _ => (by first | exact G4 rfl | exact G4 (List.append_assoc _ _ _) | exact K5)) ?_
  intro v15 _
  refine U3 rfl rfl rfl (n3 2 (fun _ => rfl) (N2 (by' := 32) 2 rfl I7 Tryz.type127 rfl rfl rfl rfl rfl rfl (A0 rfl) (A0 rfl) rfl (by first | omega | (simp only [D1, A7, szR] at *; omega)))) (fun a _ => (by first | exact G4 rfl | exact G4 (List.append_assoc _ _ _) | exact K5)) ?_
  intro v18_1 hone_v18_1
  have one_v18_1 := hone_v18_1.2
  refine J2 rfl rfl rfl (fun ext => O6 (places := #[(0, 1), (1, 1)]) rfl F8 Tryz.zeroValue125 (fun w => by kernel_rfl) rfl (F4 (A0 rfl) (T4 _) (F4 (A0 rfl) (d7 one_v18_1) J5)) rfl) ?_
  refine J2 rfl rfl rfl (fun ext => M0 rfl E2 F3 Tryz.zeroValue125 rfl rfl rfl rfl (F4 (A0 rfl) (F9 _) J5) rfl rfl) ?_
  refine U3 rfl rfl rfl (N2 (by' := 40) 1 rfl E2 Tryz.type125 rfl rfl rfl rfl rfl rfl (A0 rfl) (A0 rfl) rfl (by rw [AK4 (by rw [hinv.2, E6]; omega), A7, E6]; omega)) (fun a _ => (by first | exact G4 rfl | exact G4 (List.append_assoc _ _ _) | exact K5)) ?_
  intro v21_2 _
  refine AD6 ?_
  refine B4 rfl ?_
  refine A4 ?_
  refine AWP.le (K1 [0, 0, 0] rfl) ?_
  refine AWP.le (w6 2 (t := nin TCell.ow (l.take (i + 1)) (xs ++ [v18_1])) (nin_step (ow := TCell.ow) (x := v18_1) hx hinv.2)) ?_
  refine A2 ?_
  refine A1 rfl (F6 rfl (A0 rfl) B5 (by first | omega | (simp only [D1, A7, szR] at *; omega))) ?_
  refine A5 rfl ?_
  refine A4 ?_
  refine S9 i v xs (i + 1) (v21_2) (xs ++ [v18_1]) ?_ ?_ (M3 1 (Eq.trans (by exact congrArg (fun z => Own.arr _ _ _ z :: _) (Ax0 hx hinv.2)) (List.append_nil _).symm) ⟨rfl, rfl, rfl, rfl, rfl, trivial⟩)
  ·exact ⟨by omega, by rw [J4, hinv.2]; rfl⟩
  omega
 intro h9
 have k9 := of_decide_eq_false h9; try simp only [A9] at k9
 have hge : i = l.length := by omega
 have hxs := hinv.2.trans hge
 rw [show l.take i = l from List.take_of_length_le (by omega)]
 refine G0 ?_
 refine A3 (A2 ?_)
 refine A5 rfl ?_
 refine B4 rfl ?_
 refine A4 ?_
 refine C2 ?_
 exact AV6 [0] 0 (nin TCell.ow l xs) [] (v, xs) (hxs) rfl (show List.Perm (nin TCell.ow l xs) ((nin TCell.ow l xs) ++ []) from y6) (by rfl) (c5 rfl (B8 rfl (by first | rfl | (refine congrArg AV.bool ?_; simp_all; done))))
end Go.Proofs.YtkegepoihkhihaaGreat

namespace Go.Proofs.YtkegepoihkhihaaGreat
open Go Go.AV Go.M
attribute [local irreducible] OpW OpA OpS AWP FSpec ESpec GSpec OpE RetOk RetOkG RvDen Le Ev GuardIs SrcIs
theorem AL7 {α : Type} {f : α → Nat} {l : List α} (i : Nat) : sizeL f (l.take i) ≤ sizeL f l := by
  have := l4 (f := f) (l := l.take i) (r := l.drop i)
  rw [List.take_append_drop] at this; omega
theorem e6 {α : Type} {f : α → Nat} {l : List α} {i : Nat} {x : α} (h : l[i]? = some x) : sizeL f (l.take (i + 1)) = sizeL f (l.take i) + (1 + f x) := by
  rw [List.take_add_one, h, l4]
  show _ + sizeL f [x] = _
  rw [Q1]; rfl
def RowsTo (A : List (List AV)) (k : Str) (vs : List (List AV)) (B : List (List AV)) (D : List Own) (o2 : List TCell) (f : Value → List Value) : Prop :=
  ∀ y : Value, (f y).length = o2.length ∧ A ++ [AV.str k, AV.is y] :: B = nrows TCell.ocs o2 (f y) ∧ (Own.arr y 127 3 vs :: D).Perm (nin TCell.ow o2 (f y))
theorem Ay4 {o : List TCell} {xs : List Value} {p : Nat} {c : TCell} {y0 : Value} (hc : o[p]? = some c) (hy : xs[p]? = some y0) (hl : xs.length = o.length) (nv : TVer) :
    RowsTo (nrows TCell.ocs (o.take p) (xs.take p)) c.Key (c.Vers.map TVer.cs ++ [TVer.cs nv]) (nrows TCell.ocs (o.drop (p + 1)) (xs.drop (p + 1))) (nin TCell.ow (o.eraseIdx p) (xs.eraseIdx p)) (o.set p ⟨c.Key, c.Vers ++ [nv]⟩) (fun y => xs.set p y) := fun y => by
  have hp := (List.getElem?_eq_some_iff.1 hc).1
  have hx := (List.getElem?_eq_some_iff.1 hy).1
  have hc' : (o.set p ⟨c.Key, c.Vers ++ [nv]⟩)[p]? = some ⟨c.Key, c.Vers ++ [nv]⟩ := List.getElem?_set_self hp
  have hy' : (xs.set p y)[p]? = some y := List.getElem?_set_self hx
  refine ⟨by rw [List.length_set, List.length_set, hl], ?_, ?_⟩
  · rw [AC2 hc' hy', List.take_set_of_le (Nat.le_refl _), List.take_set_of_le (Nat.le_refl _), List.drop_set_of_lt (by omega), List.drop_set_of_lt (by omega)]
    rfl
  · have h := AO6 (ow := TCell.ow) hc' hy'
    rw [List.eraseIdx_set_eq, List.eraseIdx_set_eq] at h
    refine List.Perm.trans ?_ h.symm
    unfold TCell.ow
    simp only [List.map_append, List.map_cons, List.map_nil]
    exact List.Perm.refl _
theorem Ay5 {o : List TCell} {xs : List Value} {p : Nat} (hp : p ≤ o.length) (hl : xs.length = o.length) (k : Str) (nv : TVer) :
    RowsTo ((nrows TCell.ocs o xs).take p) k [TVer.cs nv] ((nrows TCell.ocs o xs).drop p) (nin TCell.ow o xs) (o.take p ++ ⟨k, [nv]⟩ :: o.drop p) (fun y => xs.take p ++ y :: xs.drop p) := fun y =>
  ⟨by rw [Am6 (by omega), Am6 hp, hl], BC6 (ocs := TCell.ocs) (p := ⟨k, [nv]⟩) hp hl, nin_ins (ow := TCell.ow) (p := ⟨k, [nv]⟩) hp hl⟩
theorem AH2 {l o : List TCell} {w : List TWrite} {t : Int} {i : Nat} {x : TWrite} (h : putAll l w t = putAll o (w.drop i) t) (hx : w[i]? = some x) (ht : ¬ t ≤ lastTime o x.Key) : putAll l w t = putAll (putC1 o x t) (w.drop (i + 1)) t := by
  rw [h, drop_some hx]
  unfold putAll
  rw [if_neg (by simpa using ht)]
  cases w.drop (i + 1) <;> rfl
theorem put_stop {l o : List TCell} {w : List TWrite} {t : Int} {i : Nat} {x : TWrite} (h : putAll l w t = putAll o (w.drop i) t) (hx : w[i]? = some x) (ht : t ≤ lastTime o x.Key) : putAll l w t = none := by
  rw [h, drop_some hx]
  unfold putAll
  rw [if_pos (by simpa using ht)]
theorem put_end {l o : List TCell} {w : List TWrite} {t : Int} {i : Nat} (h : putAll l w t = putAll o (w.drop i) t) (hi : w.length ≤ i) : putAll l w t = some o := by
  rw [h, List.drop_eq_nil_of_le hi]; rfl
end Go.Proofs.YtkegepoihkhihaaGreat

set_option maxHeartbeats 4000000
namespace Go.Proofs.YtkegepoihkhihaaGreat
open Go Go.AV Go.M
attribute [local irreducible] OpW OpA OpS AWP FSpec ESpec GSpec OpE RetOk RetOkG RvDen Le Ev GuardIs SrcIs
theorem BC7 (l : List TCell) (w : List TWrite) (t : Int) (ho : CellsOk l) (hs : sizeL TCell.size l ≤ 1048576) (hw : sizeL TWrite.size w ≤ 1048576) (ht1 : 1 ≤ t) : GSpec Tryz.prog 204 [AV.list 2 (l.map TCell.cs), AV.list 3 (w.map TWrite.cs), AV.int t] [] (fun x : Value × List Value => x.2.length = (putP l w t).1.length) (fun x => .arr x.1 125 2 (nrows TCell.ocs (putP l w t).1 x.2) :: nin TCell.ow (putP l w t).1 x.2) (fun x => AV.tup [AV.is x.1, AV.bool (putP l w t).2]) := by
 have hwl : w.length ≤ 1048576 := Nat.le_trans M9 hw
 refine N7 Tryz.func204 rfl Tryz.ntmps204 rfl ?_
 refine A3 (A2 ?_)
 refine A1 rfl (B3 rfl P8) ?_
 refine A1 rfl (B3 rfl F0) ?_
 refine A4 (A3 (A2 ?_))
 refine A5 rfl ?_
 refine BB8 [] 0 1 ([]) ([]) (fun zz => nin TCell.ow l zz.2) rfl rfl rfl rfl Tryz.call224 rfl rfl (show List.Perm ([]) (([]) ++ ([])) from List.Perm.refl _) (Ae3 l (by omega)) (A8 (A0 rfl) C6) (fun a => perm_lin) ?_
 intro x15 ok15
 refine B4 rfl ?_
 refine A4 (A3 (A3 (A2 ?_)))
 refine A5 rfl ?_
 refine A1 rfl (G5 rfl F7 (A0 rfl)) ?_
 refine A1 rfl (B7 rfl B5) ?_
 refine A4 (D0 ?_)
 refine AP5 [(2, _), (16, _), (17, _)] [] (fun (i : Nat) (v : Value) (q : List TCell) (xs : List Value) => i ≤ w.length ∧ xs.length = q.length ∧ CellsOk q ∧ sizeL TCell.size q ≤ 1048576 + 2 * sizeL TWrite.size (w.take i) ∧ putAll l w t = putAll q (w.drop i) t) (fun (i : Nat) (v : Value) (q : List TCell) (xs : List Value) => [.arr v 125 2 (nrows TCell.ocs q xs)] ++ (nin TCell.ow q xs)) (fun (i : Nat) (v : Value) (q : List TCell) (xs : List Value) => [(8, AV.is v), (18, AV.int i)]) (fun (i : Nat) (v : Value) (q : List TCell) (xs : List Value) => w.length - i) (0) (x15.1) (l) (x15.2) ?_ (Q3 (by rw [List.append_nil]; rfl) ⟨rfl, rfl, rfl, rfl, rfl, trivial⟩) ?_
 ·exact ⟨Nat.zero_le _, ok15, ho, by omega, rfl⟩
 intro i v q xs hinv
 have hlen := hinv.2.1
 have hinvo := hinv
 have hrl : (nrows TCell.ocs q xs).length = q.length := AK4 hlen
 refine w4 (List.append_nil _) ?_
 refine A3 (A2 ?_)
 refine A1 rfl (I4 rfl (A0 rfl) (A0 rfl)) ?_
 refine A4 (A3 ?_)
 refine C3 (A0 rfl) ?_ ?_
 ·intro h19
  have k19 := of_decide_eq_true h19; try simp only [A9] at k19
  have hlt : i < w.length := by omega
  obtain ⟨x, hx⟩ := get_some hlt
  have htk := AL7 (f := TWrite.size) (l := w) i
  have hso : sizeL TCell.size q ≤ 4194304 := by omega
  have hql : q.length ≤ 4194304 := Nat.le_trans M9 hso
  refine C8 (A3 (D0 (A3 (A2 ?_))))
  refine A1 rfl (H5 rfl F7 I2 (A0 rfl) (A0 rfl) hx (by first | omega | (simp only [D1, A7, szR] at *; omega))) ?_
  refine A1 rfl (J0 rfl (A0 rfl) S7 I2) ?_
  refine H3 rfl rfl rfl rfl Tryz.zeroValue101 rfl ?_
  intro b10
  refine E9 0 rfl rfl rfl (A0 rfl) (A0 rfl) (F9 _) rfl I2 rfl ?_
  refine A4 (A3 (A2 ?_))
  refine A5 rfl ?_
  refine A1 rfl (B2 1 rfl I0 rfl E3 (A0 rfl) rfl) ?_
  refine A1 rfl (B0 0 rfl (A0 rfl) rfl F5 rfl) ?_
  refine A1 rfl (B2 2 rfl I0 rfl K2 (A0 rfl) rfl) ?_
  refine A1 rfl (B0 0 rfl (A0 rfl) rfl K7 rfl) ?_
  refine A1 rfl (O6 (places := #[(0, 1), (1, 1), (2, 1)]) rfl J6 Tryz.zeroValue127 (fun w => by kernel_rfl) rfl (F4 (A0 rfl) (P2 _ _) (F4 (A0 rfl) (T4 _) (F4 (A0 rfl) (i8 _) J5))) rfl) ?_
  refine H3 rfl rfl rfl rfl Tryz.zeroValue127 rfl ?_
  intro b11
  refine E9 0 rfl rfl rfl (A0 rfl) (A0 rfl) (F9 _) rfl L1 rfl ?_
  refine A4 (A3 (A2 ?_))
  refine A5 rfl ?_
  refine A1 rfl (e9 2 rfl E2 (A0 rfl) rfl) ?_
  refine B4 rfl ?_
  refine A4 (A3 (D0 ?_))
  refine H4 [(2, _), (8, _), (10, _), (11, _), (16, _), (17, _), (18, _), (19, _), (20, _), (21, _), (22, _), (23, _), (24, _), (25, _), (26, _), (27, _), (28, _), (29, _)] _ (fun (j : Nat) => j ≤ q.length ∧ ∀ (a : Nat) (c : TCell), j ≤ a → q[a]? = some c → Op.bytesLess x.Key c.Key = true) (fun (j : Nat) => []) (fun (j : Nat) => [(12, AV.int j)]) (fun (j : Nat) => j) (q.length) ?_ (H8 ⟨congrArg (fun z : Nat => some (AV.int z)) hrl, rfl, rfl, rfl, rfl, rfl, rfl, rfl, rfl, rfl, rfl, rfl, rfl, rfl, rfl, rfl, rfl, rfl, rfl, trivial⟩) ?_
  ·exact ⟨Nat.le_refl _, fun a c ha hc => by have := (List.getElem?_eq_some_iff.1 hc).1; omega⟩
  intro j hinv
  obtain ⟨c, hc0⟩ := w5 q (j - 1)
  obtain ⟨y, hy0⟩ : ∃ y, j - 1 < xs.length → xs[j - 1]? = some y := ⟨xs[j - 1]?.getD (.int .i64 0), fun h => by rw [List.getElem?_eq_getElem h]; rfl⟩
  have hj1 : 0 < j → ((j : Int) - 1).toNat = j - 1 := fun _ => by omega
  have hrow0 : 0 < j → (nrows TCell.ocs q xs)[((j : Int) - 1).toNat]? = some (TCell.ocs c y) := fun h => by rw [hj1 h]; exact Ad2 (hc0 (by omega)) (hy0 (by omega))
  refine A3 (A3 ?_)
  refine I3 (by kernel_rfl) (by kernel_rfl) rfl ?_
  refine B1 rfl rfl (B7 rfl (A0 rfl)) ?_
  refine B1 rfl rfl (N6 rfl (A0 rfl) B5) ?_
  refine B1 rfl rfl (B7 rfl (A0 rfl)) ?_
  refine C5 rfl (H0 rfl rfl rfl) (fun hc => B7 rfl (A0 rfl)) ?_
  refine C5 rfl (H0 rfl rfl rfl) (fun hc => B7 rfl (A0 rfl)) ?_
  refine C5 rfl (H0 rfl rfl rfl) (fun hc => Q5 rfl (A6 rfl hc) B5 (by first | omega | ((try simp only [D1, A7, szR] at *); omega) | (have hc2 := hc; simp only [M7, beq_iff_eq, bne_iff_ne, A9, E6] at hc2; omega))) ?_
  refine C5 rfl (H0 rfl rfl rfl) (fun hc => Y2 2 rfl E2 F3 (A6 rfl hc) rfl (A6 rfl hc) (by first | omega | ((try simp only [D1, A7, szR] at *); omega) | (have hc2 := hc; simp only [M7, beq_iff_eq, bne_iff_ne, A9, E6] at hc2; omega)) (by first | omega | ((try simp only [D1, A7, szR] at *); omega) | (have hc2 := hc; simp only [M7, beq_iff_eq, bne_iff_ne, A9, E6] at hc2; omega))) ?_
  refine C5 rfl (H0 rfl rfl rfl) (fun hc => AV1 2 rfl F8 rfl E3 (A6 rfl hc) rfl rfl (hrow0 (by first | omega | ((try simp only [D1, A7, szR] at *); omega) | (have hc2 := hc; simp only [M7, beq_iff_eq, bne_iff_ne, A9, E6] at hc2; omega)))) ?_
  refine C5 rfl (H0 rfl rfl rfl) (fun hc => AS2 2 rfl (A6 rfl hc) rfl F5 (hrow0 (by first | omega | ((try simp only [D1, A7, szR] at *); omega) | (have hc2 := hc; simp only [M7, beq_iff_eq, bne_iff_ne, A9, E6] at hc2; omega))) rfl) ?_
  refine C5 rfl (H0 rfl rfl rfl) (fun hc => B2 0 rfl I0 rfl E3 (A0 rfl) rfl) ?_
  refine C5 rfl (H0 rfl rfl rfl) (fun hc => B0 1 rfl (A6 rfl hc) rfl F5 rfl) ?_
  refine C5 rfl (H0 rfl rfl rfl) (fun hc => Aj2 rfl (A6 rfl hc) (A6 rfl hc)) ?_
  refine B1 rfl rfl (G8 rfl (A0 rfl) (F1 rfl)) ?_
  refine P0 ?_
  refine C3 (A0 rfl) ?_ ?_
  ·intro h42
   have hgt : 0 < j ∧ Op.bytesLess x.Key c.Key = true := by rw [bytesLess_tri]; simpa using h42
   refine C8 (D0 (A2 ?_))
   refine A5 rfl ?_
   refine A1 rfl (Q5 rfl (A0 rfl) B5 (by first | omega | (simp only [D1, A7, szR] at *; omega))) ?_
   refine B4 rfl ?_
   refine A4 ?_
   refine c0 ?_
   refine J3 j (j - 1) ?_ ?_ (H8 ⟨congrArg (fun z : Int => some (AV.int z)) (by omega), rfl, rfl, rfl, rfl, rfl, rfl, rfl, rfl, rfl, rfl, rfl, rfl, rfl, rfl, rfl, rfl, rfl, rfl, trivial⟩)
   ·exact ⟨by omega, fun a c' ha hc' => if h9 : j ≤ a then hinv.2 a c' h9 hc' else (by have e : a = j - 1 := (by omega); subst e; rw [hc0 (by omega)] at hc'; injection hc' with hc'; subst hc'; exact hgt.2)⟩
   omega
  intro h42
  have hng : 0 < j → Op.bytesLess x.Key c.Key = false := fun h => by rw [bytesLess_tri]; simpa [h] using h42
  refine G0 ?_
  refine A3 (A3 ?_)
  refine I3 (by kernel_rfl) (by kernel_rfl) rfl ?_
  refine B1 rfl rfl (B7 rfl (A0 rfl)) ?_
  refine B1 rfl rfl (N6 rfl (A0 rfl) B5) ?_
  refine B1 rfl rfl (B7 rfl (A0 rfl)) ?_
  refine C5 rfl (H0 rfl rfl rfl) (fun hc => B7 rfl (A0 rfl)) ?_
  refine C5 rfl (H0 rfl rfl rfl) (fun hc => B7 rfl (A0 rfl)) ?_
  refine C5 rfl (H0 rfl rfl rfl) (fun hc => Q5 rfl (A6 rfl hc) B5 (by first | omega | ((try simp only [D1, A7, szR] at *); omega) | (have hc2 := hc; simp only [M7, beq_iff_eq, bne_iff_ne, A9, E6] at hc2; omega))) ?_
  refine C5 rfl (H0 rfl rfl rfl) (fun hc => Y2 2 rfl E2 F3 (A6 rfl hc) rfl (A6 rfl hc) (by first | omega | ((try simp only [D1, A7, szR] at *); omega) | (have hc2 := hc; simp only [M7, beq_iff_eq, bne_iff_ne, A9, E6] at hc2; omega)) (by first | omega | ((try simp only [D1, A7, szR] at *); omega) | (have hc2 := hc; simp only [M7, beq_iff_eq, bne_iff_ne, A9, E6] at hc2; omega))) ?_
  refine C5 rfl (H0 rfl rfl rfl) (fun hc => AV1 2 rfl F8 rfl E3 (A6 rfl hc) rfl rfl (hrow0 (by first | omega | ((try simp only [D1, A7, szR] at *); omega) | (have hc2 := hc; simp only [M7, beq_iff_eq, bne_iff_ne, A9, E6] at hc2; omega)))) ?_
  refine C5 rfl (H0 rfl rfl rfl) (fun hc => AS2 2 rfl (A6 rfl hc) rfl F5 (hrow0 (by first | omega | ((try simp only [D1, A7, szR] at *); omega) | (have hc2 := hc; simp only [M7, beq_iff_eq, bne_iff_ne, A9, E6] at hc2; omega))) rfl) ?_
  refine C5 rfl (H0 rfl rfl rfl) (fun hc => B2 0 rfl I0 rfl E3 (A0 rfl) rfl) ?_
  refine C5 rfl (H0 rfl rfl rfl) (fun hc => B0 1 rfl (A6 rfl hc) rfl F5 rfl) ?_
  refine C5 rfl (H0 rfl rfl rfl) (fun hc => p8 rfl (A6 rfl hc) (A6 rfl hc)) ?_
  refine B1 rfl rfl (G8 rfl (A0 rfl) (F1 rfl)) ?_
  refine P0 ?_
  refine C3 (A0 rfl) ?_ ?_
  ·intro h57
   have hf : 0 < j ∧ c.Key = x.Key := by simpa using h57
   have hc := hc0 (by omega)
   have hy := hy0 (by omega)
   have hins := scan_has hinvo.2.2.1.1 hc hf.2 ⟨t, x.Val, x.Gone⟩
   refine A3 (A3 (A2 ?_))
   refine A5 rfl ?_
   refine A1 rfl (B2 0 rfl I0 rfl E3 (A0 rfl) rfl) ?_
   refine A1 rfl (B0 1 rfl (A0 rfl) rfl F5 rfl) ?_
   refine A1 rfl (n1 rfl Tryz.call127 rfl (AC8 q x.Key hinvo.2.2.1 hso) (D3 _ _) (R8 (Ak0 (A0 rfl) (AG2 TCell.lcM (by first | exact hlen | exact hlen.trans (AG3 _ _).symm) 2 rfl (fun o ho => List.mem_of_mem_drop (i := 3) (show o ∈ nin TCell.ow q xs from by first | exact ho | exact List.mem_append_left _ ho | exact List.mem_append_right _ ho | exact List.mem_append_right _ (List.mem_append_left _ ho) | exact List.mem_append_right _ (List.mem_append_right _ ho))))) (R8 (evb (A0 rfl)) W5))) ?_
   refine A5 rfl ?_
   refine A1 rfl (V3 rfl (A0 rfl) (A0 rfl)) ?_
   refine A4 ?_
   refine C3 (A0 rfl) ?_ ?_
   ·intro h63
    have k63 := of_decide_eq_true h63; try simp only [A9] at k63
    have he : putP l w t = ([], false) := by unfold putP; rw [put_stop hinvo.2.2.2.2 hx k63]
    rw [he]
    refine A3 (A2 ?_)
    refine A1 rfl (B3 rfl P8) ?_
    refine A1 rfl (B3 rfl F0) ?_
    refine A4 ?_
    refine C2 ?_
    refine x9 125 2 ?_
    first | exact T1 [0] ((Value.slice none 0 0), []) (rfl) rfl (by rfl) (Y3 rfl (by decide) (F2 (B8 rfl (by rfl)) (F2 (B8 rfl (by rfl)) L5))) | exact AV6 [0] 3 (nin TCell.ow q xs) [] ((Value.slice none 0 0), []) (rfl) rfl (show List.Perm (nin TCell.ow q xs) ((nin TCell.ow q xs) ++ []) from y6) (by rfl) (Y3 rfl (by decide) (F2 (B8 rfl (by rfl)) (F2 (B8 rfl (by rfl)) L5))) | exact T1 [0] ((Value.slice none 0 0), xs) (hinv.2.1) rfl (by rfl) (Y3 rfl (by decide) (F2 (B8 rfl (by rfl)) (F2 (B8 rfl (by rfl)) L5))) | exact AV6 [0] 3 (nin TCell.ow q xs) [] ((Value.slice none 0 0), xs) (hinv.2.1) rfl (show List.Perm (nin TCell.ow q xs) ((nin TCell.ow q xs) ++ []) from y6) (by rfl) (Y3 rfl (by decide) (F2 (B8 rfl (by rfl)) (F2 (B8 rfl (by rfl)) L5)))
   intro h63
   have k63 := of_decide_eq_false h63; try simp only [A9] at k63
   have hnt : ¬ t ≤ lastTime q x.Key := k63
   have hpo := (List.getElem?_eq_some_iff.1 hc).1
   have hA : (nrows TCell.ocs (q.take (j - 1)) (xs.take (j - 1))).length = ((j : Int) - 1).toNat := (Ax1 (ocs := TCell.ocs) hc hy).trans (hj1 hf.1).symm
   obtain ⟨fx, hto⟩ : ∃ fx, RowsTo (nrows TCell.ocs (q.take (j - 1)) (xs.take (j - 1))) c.Key (c.Vers.map TVer.cs ++ [TVer.cs ⟨t, x.Val, x.Gone⟩]) (nrows TCell.ocs (q.drop (j - 1 + 1)) (xs.drop (j - 1 + 1))) (nin TCell.ow (q.eraseIdx (j - 1)) (xs.eraseIdx (j - 1))) (putC1 q x t) fx := ⟨_, by have h7 := Ay4 hc hy hlen ⟨t, x.Val, x.Gone⟩; unfold putC1; rw [hins]; rw [hf.2] at h7 ⊢; exact h7⟩
   have hcs := i5 (Nat.le_trans (V2 hc) hso)
   rw [AC2 hc hy]
   refine AWP.le (w6 3 (t := (TCell.ow c y) ++ (nin TCell.ow (q.eraseIdx (j - 1)) (xs.eraseIdx (j - 1)))) (AO6 (ow := TCell.ow) hc hy)) ?_
   refine C8 (A3 ?_)
   refine AWP.le (K1 [0, 1, 1] rfl) ?_
   refine W4 _ [(0, false), (1, false), (2, false), (3, false), (4, false), (5, false), (6, false), (7, false), (8, false), (9, false), (10, false), (11, true)] (by kernel_rfl) (by kernel_rfl) rfl (j4 2) ?_
   refine J2 rfl rfl rfl (fun ext => B7 rfl (A0 rfl)) ?_
   refine J2 rfl rfl rfl (fun ext => B7 rfl (A0 rfl)) ?_
   refine J2 rfl rfl rfl (fun ext => Q5 rfl (A0 rfl) B5 (by first | omega | (simp only [D1, A7, szR] at *; omega))) ?_
   refine J2 rfl rfl rfl (fun ext => B7 rfl (A0 rfl)) ?_
   refine J2 rfl rfl rfl (fun ext => B7 rfl (A0 rfl)) ?_
   refine J2 rfl rfl rfl (fun ext => Q5 rfl (A0 rfl) B5 (by first | omega | (simp only [D1, A7, szR] at *; omega))) ?_
   refine J2 rfl rfl rfl (fun ext => Y2 1 rfl E2 F3 (A0 rfl) rfl (A0 rfl) (by omega) (by rw [J4, J7]; omega)) ?_
   refine J2 rfl rfl rfl (fun ext => AV1 1 rfl F8 rfl M8 (A0 rfl) rfl rfl (AO3 hA)) ?_
   refine J2 rfl rfl rfl (fun ext => AS2 1 rfl (A0 rfl) rfl P1 (AO3 hA) rfl) ?_
   refine J2 rfl rfl rfl (fun ext => I5 0 rfl (A0 rfl) rfl Y6 L1 rfl) ?_
   refine J2 rfl rfl rfl (fun ext => M0 rfl I7 L1 Tryz.zeroValue127 rfl rfl rfl rfl (F4 (A0 rfl) (F9 _) J5) rfl rfl) ?_
   refine U3 rfl rfl rfl (N2 (by' := 32) 2 rfl I7 Tryz.type127 rfl rfl rfl rfl rfl rfl (A0 rfl) (A0 rfl) rfl (by first | omega | (simp only [D1, A7, szR] at *; omega))) (fun a _ => (by first | exact G4 rfl | exact G4 (List.append_assoc _ _ _) | exact K5)) ?_
   intro v75_2 _
   refine AD6 ?_
   refine A1 rfl (Y2 1 rfl E2 F3 (A0 rfl) rfl (A0 rfl) (by omega) (by rw [J4, J7]; omega)) ?_
   refine A1 rfl (AV1 1 rfl F8 rfl M8 (A0 rfl) rfl rfl (AO3 hA)) ?_
   refine v8 2 rfl fun one_v75_2 => ?_
   refine Aw4 1 rfl rfl rfl (A0 rfl) (A0 rfl) (d7 one_v75_2) rfl M8 hA rfl ?_
   refine A4 ?_
   refine G0 ?_
   refine w4 (by first | (simp only [List.singleton_append, pick, Ai1, AU1, AN6, AE5, f9, List.nil_append, Ai2, AU2, List.append_nil, z8, List.take_zero, AE6, List.drop_zero]; exact rfl) | exact rfl) ?_
   refine AWP.le (K1 [0, 0, 1, 0] rfl) ?_
   refine AWP.le (w6 3 (t := nin TCell.ow (putC1 q x t) (fx v75_2)) ((hto v75_2).2.2)) ?_
   refine A2 ?_
   refine A1 rfl (F6 rfl (A0 rfl) B5 (by first | omega | (simp only [D1, A7, szR] at *; omega))) ?_
   refine A5 rfl ?_
   refine A4 ?_
   refine j7 i v q xs (i + 1) (v) (putC1 q x t) (fx v75_2) ?_ ?_ (Le.trans (K1 [0, 1, 0] rfl) (M3 2 (Eq.trans (by first | exact congrArg (fun z => Own.arr _ _ _ z :: _) (hto v75_2).2.1 | exact congrArg (fun z => Own.arr _ _ _ z :: _) (by first | (rw [List.nil_append, List.append_assoc]; exact (hto v75_2).2.1) | (rw [List.append_assoc]; exact (hto v75_2).2.1))) (List.append_nil _).symm) ⟨rfl, rfl, rfl, rfl, rfl, trivial⟩))
   ·exact ⟨by omega, (hto _).1, f7 hinvo.2.2.1 _ _, by have h8 := l5 q x t; have h9 := e6 (f := TWrite.size) hx; omega, AH2 hinvo.2.2.2.2 hx hnt⟩
   omega
  intro h57
  have hnf : 0 < j → c.Key ≠ x.Key := fun h => by simpa [h] using h57
  obtain ⟨hins, hl0⟩ := scan_new hinvo.2.2.1.1 hinv.1 hinv.2 (fun z hz hzz => by rw [hc0 (by omega)] at hzz; injection hzz with hzz; subst hzz; rw [bytesLess_tri, hng hz]; simpa using fun e => hnf hz e.symm) ⟨t, x.Val, x.Gone⟩
  have hnt : ¬ t ≤ lastTime q x.Key := by rw [hl0]; omega
  obtain ⟨fx, hto⟩ : ∃ fx, RowsTo ((nrows TCell.ocs q xs).take j) x.Key [TVer.cs ⟨t, x.Val, x.Gone⟩] ((nrows TCell.ocs q xs).drop j) (nin TCell.ow q xs) (putC1 q x t) fx := ⟨_, by unfold putC1; rw [hins]; exact Ay5 hinv.1 hlen _ _⟩
  refine C8 (A3 ?_)
  refine AWP.le (W7 [2] 8 rfl rfl (Q4 (G6 (i := 0) rfl) L7) T0) ?_
  refine A2 ?_
  refine O8 rfl rfl rfl rfl E2 F3 ?_
  intro v78
  refine A5 rfl ?_
  refine A5 rfl ?_
  refine A1 rfl (Aj9 rfl E2 F3 (A0 rfl) (A0 rfl) (by omega) (by rw [hrl]; omega)) ?_
  refine M6 (by' := 40) 0 rfl rfl rfl rfl E2 Tryz.type125 rfl rfl rfl rfl rfl rfl (A0 rfl) (A0 rfl) rfl (by simp only [L9, List.nil_append, J4, E6, List.length_drop, J7, A7, hrl]; omega) ?_
  intro v82_3
  refine B4 rfl ?_
  refine A4 ?_
  refine AWP.le (W7 [0] 13 rfl rfl (Q4 (G6 (i := 0) rfl) L7) T0) ?_
  refine AWP.le (K1 [0, 0] rfl) ?_
  refine a8 _ 14 (.pure 1 (.pure 2 (.pure 3 (.pure 5 (.pure 6 (.pure 7 (.pure 12 (.e2 0 (.e2 4 (.e1 8 (.pure 9 (.pure 10 (.e1 11 (.e1 13 .nil))))) 8 (.pure 9 (.pure 10 (.e1 4 (.e1 11 (.e1 13 .nil)))))) 8 (.pure 9 (.pure 10 (.e1 0 (.e1 4 (.e1 11 (.e1 13 .nil)))))))))))))) (by kernel_rfl) (by kernel_rfl) rfl (j4 2) ?_
  refine I9 rfl rfl rfl (fun ext => B7 rfl (A0 rfl)) ?_
  refine I9 rfl rfl rfl (fun ext => B7 rfl (A0 rfl)) ?_
  refine I9 rfl rfl rfl (fun ext => Aj8 rfl E2 F3 (A0 rfl) (A0 rfl) (by omega) (by rw [hrl]; omega)) ?_
  refine I9 rfl rfl rfl (fun ext => B2 0 rfl I0 rfl E3 (A0 rfl) rfl) ?_
  refine I9 rfl rfl rfl (fun ext => B0 1 rfl (A0 rfl) rfl F5 rfl) ?_
  refine I9 rfl rfl rfl (fun ext => I5 0 rfl (A0 rfl) rfl Y6 L1 rfl) ?_
  refine I9 rfl rfl rfl (fun ext => B7 rfl (A0 rfl)) ?_
  refine Ai7 ?_ ?_
  ·refine U0 rfl rfl rfl (w7 2 <| X2 rfl E2 F3) (fun a _ => (by first | exact G4 rfl | exact G4 (List.append_assoc _ _ _) | exact K5)) ?_
   intro v83 _
   refine Ai7 ?_ ?_
   ·refine U0 rfl rfl rfl (N2 (by' := 40) 2 rfl E2 Tryz.type125 rfl rfl rfl rfl rfl rfl (A0 rfl) (A0 rfl) rfl (by simp only [L9, List.nil_append, J4, E6, List.length_drop, J7, A7, hrl]; omega)) (fun a _ => (by first | exact G4 rfl | exact G4 (List.append_assoc _ _ _) | exact K5)) ?_
    intro v87_4 _
    refine X3 ?_
    refine U0 rfl rfl rfl (n3 3 (fun _ => rfl) (w7 3 <| AF9 rfl I7 L1 Tryz.zeroValue127 rfl rfl rfl rfl (F4 (A0 rfl) (F9 _) J5) rfl rfl)) (fun a _ => (by first | exact G4 rfl | exact G4 (List.append_assoc _ _ _) | exact K5)) ?_
    intro v91 hone_v91
    have one_v91 := hone_v91.2
    refine I9 rfl rfl rfl (fun ext => O6 (places := #[(0, 1), (1, 1)]) rfl F8 Tryz.zeroValue125 (fun w => by kernel_rfl) rfl (F4 (A0 rfl) (T4 _) (F4 (A0 rfl) (d7 one_v91) J5)) rfl) ?_
    refine I9 rfl rfl rfl (fun ext => M0 rfl E2 F3 Tryz.zeroValue125 rfl rfl rfl rfl (F4 (A0 rfl) (F9 _) J5) rfl rfl) ?_
    refine X3 ?_
    refine U0 rfl rfl rfl (N2 (by' := 40) 2 rfl E2 Tryz.type125 rfl rfl rfl rfl rfl rfl (A0 rfl) (A0 rfl) rfl (by simp only [L9, List.nil_append, J4, E6, List.length_drop, J7, A7, hrl]; omega)) (fun a _ => (by first | exact G4 rfl | exact G4 (List.append_assoc _ _ _) | exact K5)) ?_
    intro v94_5 _
    refine X3 ?_
    refine U0 rfl rfl rfl (N2 (by' := 40) 2 rfl E2 Tryz.type125 rfl rfl rfl rfl rfl rfl (A0 rfl) (A0 rfl) rfl (by simp only [L9, List.nil_append, J4, E6, List.length_drop, J7, A7, hrl]; omega)) (fun a _ => (by first | exact G4 rfl | exact G4 (List.append_assoc _ _ _) | exact K5)) ?_
    intro v96_6 _
    refine l6 ?_
    refine B4 rfl ?_
    refine A4 ?_
    refine w4 (by first | (simp only [List.singleton_append, pick, Ai1, AU1, AN6, AE5, f9, List.nil_append, Ai2, AU2, List.append_nil, z8, List.take_zero, AE6, List.drop_zero]; exact rfl) | exact rfl) ?_
    refine AWP.le (K1 [0, 0, 0, 0] rfl) ?_
    refine AWP.le (w6 3 (t := nin TCell.ow (putC1 q x t) (fx v91)) ((hto v91).2.2)) ?_
    refine A2 ?_
    refine A1 rfl (F6 rfl (A0 rfl) B5 (by first | omega | (simp only [D1, A7, szR] at *; omega))) ?_
    refine A5 rfl ?_
    refine A4 ?_
    refine j7 i v q xs (i + 1) (v96_6) (putC1 q x t) (fx v91) ?_ ?_ (Le.trans (K1 [0, 0, 0] rfl) (M3 2 (Eq.trans (by first | exact congrArg (fun z => Own.arr _ _ _ z :: _) (hto v91).2.1 | exact congrArg (fun z => Own.arr _ _ _ z :: _) (by first | (rw [List.nil_append, List.append_assoc]; exact (hto v91).2.1) | (rw [List.append_assoc]; exact (hto v91).2.1))) (List.append_nil _).symm) ⟨rfl, rfl, rfl, rfl, rfl, trivial⟩))
    ·exact ⟨by omega, (hto _).1, f7 hinvo.2.2.1 _ _, by have h8 := l5 q x t; have h9 := e6 (f := TWrite.size) hx; omega, AH2 hinvo.2.2.2.2 hx hnt⟩
    omega
   refine U0 rfl rfl rfl (n3 3 (fun _ => rfl) (w7 3 <| AF9 rfl I7 L1 Tryz.zeroValue127 rfl rfl rfl rfl (F4 (A0 rfl) (F9 _) J5) rfl rfl)) (fun a _ => (by first | exact G4 rfl | exact G4 (List.append_assoc _ _ _) | exact K5)) ?_
   intro v91 hone_v91
   have one_v91 := hone_v91.2
   refine I9 rfl rfl rfl (fun ext => O6 (places := #[(0, 1), (1, 1)]) rfl F8 Tryz.zeroValue125 (fun w => by kernel_rfl) rfl (F4 (A0 rfl) (T4 _) (F4 (A0 rfl) (d7 one_v91) J5)) rfl) ?_
   refine I9 rfl rfl rfl (fun ext => M0 rfl E2 F3 Tryz.zeroValue125 rfl rfl rfl rfl (F4 (A0 rfl) (F9 _) J5) rfl rfl) ?_
   refine X3 ?_
   refine U0 rfl rfl rfl (N2 (by' := 40) 2 rfl E2 Tryz.type125 rfl rfl rfl rfl rfl rfl (A0 rfl) (A0 rfl) rfl (by simp only [L9, List.nil_append, J4, E6, List.length_drop, J7, A7, hrl]; omega)) (fun a _ => (by first | exact G4 rfl | exact G4 (List.append_assoc _ _ _) | exact K5)) ?_
   intro v87_7 _
   refine X3 ?_
   refine U0 rfl rfl rfl (N2 (by' := 40) 2 rfl E2 Tryz.type125 rfl rfl rfl rfl rfl rfl (A0 rfl) (A0 rfl) rfl (by simp only [L9, List.nil_append, J4, E6, List.length_drop, J7, A7, hrl]; omega)) (fun a _ => (by first | exact G4 rfl | exact G4 (List.append_assoc _ _ _) | exact K5)) ?_
   intro v94_8 _
   refine X3 ?_
   refine U0 rfl rfl rfl (N2 (by' := 40) 2 rfl E2 Tryz.type125 rfl rfl rfl rfl rfl rfl (A0 rfl) (A0 rfl) rfl (by simp only [L9, List.nil_append, J4, E6, List.length_drop, J7, A7, hrl]; omega)) (fun a _ => (by first | exact G4 rfl | exact G4 (List.append_assoc _ _ _) | exact K5)) ?_
   intro v96_9 _
   refine l6 ?_
   refine B4 rfl ?_
   refine A4 ?_
   refine w4 (by first | (simp only [List.singleton_append, pick, Ai1, AU1, AN6, AE5, f9, List.nil_append, Ai2, AU2, List.append_nil, z8, List.take_zero, AE6, List.drop_zero]; exact rfl) | exact rfl) ?_
   refine AWP.le (K1 [0, 0, 0, 0] rfl) ?_
   refine AWP.le (w6 3 (t := nin TCell.ow (putC1 q x t) (fx v91)) ((hto v91).2.2)) ?_
   refine A2 ?_
   refine A1 rfl (F6 rfl (A0 rfl) B5 (by first | omega | (simp only [D1, A7, szR] at *; omega))) ?_
   refine A5 rfl ?_
   refine A4 ?_
   refine j7 i v q xs (i + 1) (v96_9) (putC1 q x t) (fx v91) ?_ ?_ (Le.trans (K1 [0, 0, 0] rfl) (M3 2 (Eq.trans (by first | exact congrArg (fun z => Own.arr _ _ _ z :: _) (hto v91).2.1 | exact congrArg (fun z => Own.arr _ _ _ z :: _) (by first | (rw [List.nil_append, List.append_assoc]; exact (hto v91).2.1) | (rw [List.append_assoc]; exact (hto v91).2.1))) (List.append_nil _).symm) ⟨rfl, rfl, rfl, rfl, rfl, trivial⟩))
   ·exact ⟨by omega, (hto _).1, f7 hinvo.2.2.1 _ _, by have h8 := l5 q x t; have h9 := e6 (f := TWrite.size) hx; omega, AH2 hinvo.2.2.2.2 hx hnt⟩
   omega
  refine U0 rfl rfl rfl (n3 2 (fun _ => rfl) (w7 2 <| AF9 rfl I7 L1 Tryz.zeroValue127 rfl rfl rfl rfl (F4 (A0 rfl) (F9 _) J5) rfl rfl)) (fun a _ => (by first | exact G4 rfl | exact G4 (List.append_assoc _ _ _) | exact K5)) ?_
  intro v91 hone_v91
  have one_v91 := hone_v91.2
  refine I9 rfl rfl rfl (fun ext => O6 (places := #[(0, 1), (1, 1)]) rfl F8 Tryz.zeroValue125 (fun w => by kernel_rfl) rfl (F4 (A0 rfl) (T4 _) (F4 (A0 rfl) (d7 one_v91) J5)) rfl) ?_
  refine I9 rfl rfl rfl (fun ext => M0 rfl E2 F3 Tryz.zeroValue125 rfl rfl rfl rfl (F4 (A0 rfl) (F9 _) J5) rfl rfl) ?_
  refine X3 ?_
  refine U0 rfl rfl rfl (w7 3 <| X2 rfl E2 F3) (fun a _ => (by first | exact G4 rfl | exact G4 (List.append_assoc _ _ _) | exact K5)) ?_
  intro v83 _
  refine X3 ?_
  refine U0 rfl rfl rfl (N2 (by' := 40) 3 rfl E2 Tryz.type125 rfl rfl rfl rfl rfl rfl (A0 rfl) (A0 rfl) rfl (by simp only [L9, List.nil_append, J4, E6, List.length_drop, J7, A7, hrl]; omega)) (fun a _ => (by first | exact G4 rfl | exact G4 (List.append_assoc _ _ _) | exact K5)) ?_
  intro v87_10 _
  refine X3 ?_
  refine U0 rfl rfl rfl (N2 (by' := 40) 3 rfl E2 Tryz.type125 rfl rfl rfl rfl rfl rfl (A0 rfl) (A0 rfl) rfl (by simp only [L9, List.nil_append, J4, E6, List.length_drop, J7, A7, hrl]; omega)) (fun a _ => (by first | exact G4 rfl | exact G4 (List.append_assoc _ _ _) | exact K5)) ?_
  intro v94_11 _
  refine X3 ?_
  refine U0 rfl rfl rfl (N2 (by' := 40) 3 rfl E2 Tryz.type125 rfl rfl rfl rfl rfl rfl (A0 rfl) (A0 rfl) rfl (by simp only [L9, List.nil_append, J4, E6, List.length_drop, J7, A7, hrl]; omega)) (fun a _ => (by first | exact G4 rfl | exact G4 (List.append_assoc _ _ _) | exact K5)) ?_
  intro v96_12 _
  refine l6 ?_
  refine B4 rfl ?_
  refine A4 ?_
  refine w4 (by first | (simp only [List.singleton_append, pick, Ai1, AU1, AN6, AE5, f9, List.nil_append, Ai2, AU2, List.append_nil, z8, List.take_zero, AE6, List.drop_zero]; exact rfl) | exact rfl) ?_
  refine AWP.le (K1 [0, 0, 1, 0] rfl) ?_
  refine AWP.le (w6 3 (t := nin TCell.ow (putC1 q x t) (fx v91)) ((hto v91).2.2)) ?_
  refine A2 ?_
  refine A1 rfl (F6 rfl (A0 rfl) B5 (by first | omega | (simp only [D1, A7, szR] at *; omega))) ?_
  refine A5 rfl ?_
  refine A4 ?_
  refine j7 i v q xs (i + 1) (v96_12) (putC1 q x t) (fx v91) ?_ ?_ (Le.trans (K1 [0, 0, 0] rfl) (M3 2 (Eq.trans (by first | exact congrArg (fun z => Own.arr _ _ _ z :: _) (hto v91).2.1 | exact congrArg (fun z => Own.arr _ _ _ z :: _) (by first | (rw [List.nil_append, List.append_assoc]; exact (hto v91).2.1) | (rw [List.append_assoc]; exact (hto v91).2.1))) (List.append_nil _).symm) ⟨rfl, rfl, rfl, rfl, rfl, trivial⟩))
  ·exact ⟨by omega, (hto _).1, f7 hinvo.2.2.1 _ _, by have h8 := l5 q x t; have h9 := e6 (f := TWrite.size) hx; omega, AH2 hinvo.2.2.2.2 hx hnt⟩
  omega
 intro h19
 have k19 := of_decide_eq_false h19; try simp only [A9] at k19
 have hge : w.length ≤ i := by omega
 have hpe := put_end hinv.2.2.2.2 hge
 have htk := AL7 (f := TWrite.size) (l := w) i
 have hso : sizeL TCell.size q ≤ 4194304 := by omega
 have he : putP l w t = (q, l3Good q) := by unfold putP; rw [hpe]
 rw [he]
 refine G0 ?_
 refine A3 (A2 ?_)
 refine A5 rfl ?_
 refine A5 rfl ?_
 refine A1 rfl (n1 rfl Tryz.call125 rfl (AQ4 q hso) (C7 _) (R8 (Ak0 (A0 rfl) (AG2 TCell.lcM (by first | exact hlen | exact hlen.trans (AG3 _ _).symm) 0 rfl (fun o ho => List.mem_of_mem_drop (i := 1) (show o ∈ nin TCell.ow q xs from by first | exact ho | exact List.mem_append_left _ ho | exact List.mem_append_right _ ho | exact List.mem_append_right _ (List.mem_append_left _ ho) | exact List.mem_append_right _ (List.mem_append_right _ ho))))) W5)) ?_
 refine B4 rfl ?_
 refine B4 rfl ?_
 refine A4 ?_
 refine C2 ?_
 first | exact T1 [0] (v, []) (rfl) rfl (by rfl) (Y3 rfl (by decide) (F2 (B8 rfl (by rfl)) (F2 (B8 rfl (by rfl)) L5))) | exact AV6 [0] 0 (nin TCell.ow q xs) [] (v, []) (rfl) rfl (show List.Perm (nin TCell.ow q xs) ((nin TCell.ow q xs) ++ []) from y6) (by rfl) (Y3 rfl (by decide) (F2 (B8 rfl (by rfl)) (F2 (B8 rfl (by rfl)) L5))) | exact AV6 [0] 0 (nin TCell.ow q xs) [] (v, xs) (hinv.2.1) rfl (show List.Perm (nin TCell.ow q xs) ((nin TCell.ow q xs) ++ []) from y6) (by rfl) (Y3 rfl (by decide) (F2 (B8 rfl (by rfl)) (F2 (B8 rfl (by rfl)) L5)))
end Go.Proofs.YtkegepoihkhihaaGreat

namespace Go.AV
section
variable {P : Program} {G : Nat → Prop} {n : Nat} {own : List Own} {env : List (Nat × AV)} {fn : Func}
theorem AL8 {sel : List Own} {cs : List AV} {sz : Nat} (j : Nat) (h : cs[j]? = some AV.nils) : LendC sel cs (cs.set j (AV.list sz [])) := ⟨by rw [List.length_set], fun i x y hx hy => by
  by_cases e : j = i
  · subst e
    rw [List.getElem?_set_self (List.getElem?_eq_some_iff.1 h).1] at hy
    rw [h] at hx
    injection hx with hx; injection hy with hy; subst hx; subst hy
    exact j3
  · rw [List.getElem?_set_ne e, hx] at hy
    injection hy with hy; subst hy; exact L0⟩
theorem BC8 {o : Oper} {ops : Array Oper} {E : EnvF} {α : Type} {ok : α → Prop} {W' : α → List Own} {V : α → AV} {sel rest : α → List Own} {Y : α → AV} (is : List Nat) (hp : ∀ a, pick (W' a) is = (sel a, rest a)) (hl : ∀ a, LendTo (sel a) (V a) (Y a)) (hG : ∀ a b, G b → b ∈ (rest a).filterMap Own.blk)
    (h : OpE P G n own ops o E ok W' V) : OpE P G n own ops o E ok rest Y := fun w0 R0 R a w h1 h2 h3 =>
  Oper.wp_mono2 (fun a' w' ⟨x, v, R', e0, e1, e2, e3, e4⟩ =>
    have hk := Y8 e2 (hp x)
    ⟨x, v, lend (sel x) w' R', e0, e1, AH0 hk (hG x), e3.trans (X7 (S6 hk)), hl x G w0 R0 R' w' v (S6 hk) e4⟩) (fun _ _ _ h => h) (h w0 R0 R a w h1 h2 h3)
theorem AH3 (i j sz : Nat) {b : Nat} {t : TypeId} {cs : List AV} (hi : own[i]? = some (.box b t cs)) (hj : cs[j]? = some AV.nils) (hG : ∀ b, G b → b ∈ own.filterMap Own.blk) : Le G n ⟨own, env⟩ ⟨own.set i (.box b t (cs.set j (AV.list sz []))), env⟩ :=
  AT2 [] i (.box b t (cs.set j (AV.list sz []))) rfl hi ⟨rfl, rfl, AL8 j hj⟩ hG
theorem Y4 {α : Type} {ok : α → Prop} {O : α → List Own} {V : α → AV} (i j sz : Nat) {b : Nat} {t : TypeId} {cs : List AV} (hi : own[i]? = some (.box b t cs)) (hj : cs[j]? = some AV.nils) (hG : ∀ b, G b → b ∈ own.filterMap Own.blk)
    (k : RetOkG P G n fn ⟨own.set i (.box b t (cs.set j (AV.list sz []))), env⟩ ok O V) : RetOkG P G n fn ⟨own, env⟩ ok O V := fun w0 R0 R a w hs => by
  have hle : Le G n ⟨own, env⟩ ⟨own.set i (.box b t (cs.set j (AV.list sz []))), env⟩ := AT2 [] i (.box b t (cs.set j (AV.list sz []))) rfl hi ⟨rfl, rfl, AL8 j hj⟩ hG
  obtain ⟨R1, h1, h2⟩ := hle w0 R0 R a w hs
  obtain ⟨x, v, R2, g0, g1, g2, g3, g4⟩ := k w0 R0 R1 a w h2
  exact ⟨x, v, R2, g0, g1, g2, h1.trans g3, g4⟩
theorem AR0 {y : AV} (i j sz : Nat) {b : Nat} {t : TypeId} {cs : List AV} (hi : own[i]? = some (.box b t cs)) (hj : cs[j]? = some AV.nils)
    (k : RetOk P (fun _ => False) n fn ⟨own.set i (.box b t (cs.set j (AV.list sz []))), env⟩ y) : RetOk P (fun _ => False) n fn ⟨own, env⟩ y := fun w0 R0 R a w hs => by
  have hle : Le (fun _ => False) n ⟨own, env⟩ ⟨own.set i (.box b t (cs.set j (AV.list sz []))), env⟩ := AT2 [] i (.box b t (cs.set j (AV.list sz []))) rfl hi ⟨rfl, rfl, AL8 j hj⟩ AL4
  obtain ⟨R1, h1, h2⟩ := hle w0 R0 R a w hs
  obtain ⟨v, R2, h3, h4, h5, h6⟩ := k w0 R0 R1 a w h2
  exact ⟨v, R2, h3, h4, h1.trans h5, h6⟩
end
end Go.AV

set_option maxHeartbeats 1000000
namespace Go.M
open Go.AV
theorem Ae4 {h : THeld} : ∀ {l : List THeld} {p : Nat}, p ≤ l.length → (∀ i x, i < p → l[i]? = some x → x.Txn ≤ h.Txn) → (∀ x, l[p]? = some x → h.Txn < x.Txn) → insH h l = l.take p ++ h :: l.drop p
  | [], p, hp, _, _ => by simp at hp; subst hp; rfl
  | g :: l, 0, _, _, h2 => by unfold insH; rw [if_pos (h2 g rfl)]; rfl
  | g :: l, p + 1, hp, h1, h2 => by
    unfold insH
    rw [if_neg (by have := h1 0 g (by omega) rfl; omega), Ae4 (by simpa using hp) (fun i x hi hx => h1 (i + 1) x (by omega) (by simpa using hx)) (fun x hx => h2 x (by simpa using hx))]
    rfl
theorem Ae5 {h : TTold} : ∀ {l : List TTold} {p : Nat}, p ≤ l.length → (∀ i x, i < p → l[i]? = some x → x.Txn ≤ h.Txn) → (∀ x, l[p]? = some x → h.Txn < x.Txn) → insT h l = l.take p ++ h :: l.drop p
  | [], p, hp, _, _ => by simp at hp; subst hp; rfl
  | g :: l, 0, _, _, h2 => by unfold insT; rw [if_pos (h2 g rfl)]; rfl
  | g :: l, p + 1, hp, h1, h2 => by
    unfold insT
    rw [if_neg (by have := h1 0 g (by omega) rfl; omega), Ae5 (by simpa using hp) (fun i x hi hx => h1 (i + 1) x (by omega) (by simpa using hx)) (fun x hx => h2 x (by simpa using hx))]
    rfl
def THeld.ocs (h : THeld) (x : Value × Value) : List AV := [AV.int h.Txn, AV.int h.Time, AV.int h.Lead, AV.is x.1, AV.is x.2]
def TState.ocs (s : TState) (x : Value × Value) : List AV := [AV.int s.Floor, AV.list 2 (s.Cells.map TCell.cs), AV.is x.1, AV.is x.2]
end Go.M
namespace Go.Proofs.YtkegepoihkhihaaGreat
open Go Go.AV Go.M
def THeld.ow (h : THeld) (x : Value × Value) : List Own := [.arr x.1 9 1 (h.Reads.map fun k => [AV.str k]), .arr x.2 101 3 (h.Writes.map TWrite.cs)]
def TState.ow (s : TState) (x : Value × Value) : List Own := [.arr x.1 141 5 (s.Held.map THeld.cs), .arr x.2 144 3 (s.Told.map TTold.cs)]
theorem THeld.lc (h : THeld) (x : Value × Value) : LendC (THeld.ow h x) (THeld.ocs h x) h.cs :=
  H9 L0 (H9 L0 (H9 L0 (H9 (Q4 (G6 (i := 0) rfl) L7) (H9 (Q4 (G6 (i := 1) rfl) L7) V8))))
theorem TState.lc (s : TState) (x : Value × Value) : LendC (TState.ow s x) (TState.ocs s x) s.cs :=
  H9 L0 (H9 L0 (H9 (Q4 (G6 (i := 0) rfl) L7) (H9 (Q4 (G6 (i := 1) rfl) L7) V8)))
attribute [local irreducible] OpW OpA OpS AWP FSpec ESpec GSpec OpE RetOk RetOkG RvDen Le Ev GuardIs SrcIs Int.tmod Int.tdiv IntKind.wrap
end Go.Proofs.YtkegepoihkhihaaGreat

namespace Go.M
open Go.AV
def settled (s : TState) : Int := s.Held.foldl (fun o h => min o (h.Time - 1)) s.Floor
theorem AL9 {x : Int} : ∀ {l : List THeld} {o : Int}, x ≤ l.foldl (fun o h => min o (h.Time - 1)) o ↔ x ≤ o ∧ ∀ h ∈ l, x ≤ h.Time - 1
  | [], o => by simp
  | h :: l, o => by
    rw [List.foldl_cons, AL9]
    constructor
    · rintro ⟨a, b⟩
      refine ⟨by omega, fun k hk => ?_⟩
      rcases List.mem_cons.1 hk with rfl | hk
      · omega
      · exact b k hk
    · rintro ⟨a, b⟩
      have := b h List.mem_cons_self
      exact ⟨by omega, fun k hk => b k (List.mem_cons_of_mem _ hk)⟩
theorem V0 {s : TState} {x : Int} : x ≤ settled s ↔ x ≤ s.Floor ∧ ∀ h ∈ s.Held, x ≤ h.Time - 1 := AL9
structure Keeps (s s' : TState) : Prop where
  floor : s.Floor ≤ s'.Floor
  told : ∀ t ∈ s.Told, t ∈ s'.Told
  tlen : s.Told.length ≤ s'.Told.length
  settled : settled s ≤ settled s'
  cells : ∀ a, a ≤ M.settled s → cellsAt s'.Cells a = cellsAt s.Cells a
theorem Keeps.refl (s : TState) : Keeps s s := ⟨Int.le_refl _, fun _ h => h, Nat.le_refl _, Int.le_refl _, fun _ _ => rfl⟩
theorem Keeps.trans {a b c : TState} (h : Keeps a b) (k : Keeps b c) : Keeps a c :=
  ⟨Int.le_trans h.floor k.floor, fun t ht => k.told t (h.told t ht), Nat.le_trans h.tlen k.tlen, Int.le_trans h.settled k.settled, fun x hx => (k.cells x (Int.le_trans hx h.settled)).trans (h.cells x hx)⟩
theorem Y5 (c : TCell) (l : List TCell) (a : Int) : cellsAt (c :: l) a = (if (cellVal c a).2 = true then [⟨c.Key, (cellVal c a).1, false⟩] else []) ++ cellsAt l a := by
  unfold cellsAt
  rw [List.filterMap_cons]
  split
  · rename_i h; split at h
    · cases h
    · rename_i h2; rw [if_neg h2]; rfl
  · rename_i b h; split at h
    · rename_i h2; injection h with h; subst h; rw [if_pos h2]; rfl
    · cases h
theorem AT4 {k : Str} {vs : List TVer} {v : TVer} {a : Int} (h : a < v.Time) : cellVal ⟨k, vs ++ [v]⟩ a = cellVal ⟨k, vs⟩ a := by
  rw [AI3, AI3]
  dsimp only
  rw [Ax2, if_neg (by omega)]
theorem Am7 {k : Str} {v : TVer} {a : Int} (h : a < v.Time) : ∀ l : List TCell, cellsAt (insC l k v) a = cellsAt l a
  | [] => by
    unfold insC
    rw [Y5]
    have : cellVal ⟨k, [v]⟩ a = cellVal ⟨k, []⟩ a := AT4 (vs := []) h
    rw [this]; rfl
  | c :: l => by
    unfold insC
    split
    · rw [Y5, Y5, Am7 h l]
    · split
      · rename_i e
        rw [Y5, Y5, AT4 h]
        subst e; rfl
      · have : cellVal ⟨k, [v]⟩ a = cellVal ⟨k, []⟩ a := AT4 (vs := []) h
        rw [Y5, this]; rfl
theorem put_at {t a : Int} (h : a < t) : ∀ {w : List TWrite} {l q : List TCell}, putAll l w t = some q → cellsAt q a = cellsAt l a
  | [], l, q, e => by simp [putAll] at e; rw [e]
  | x :: w, l, q, e => by
    unfold putAll at e
    split at e
    · cases e
    · rw [put_at h e]; exact Am7 h l
theorem Ar6 {s : TState} (g : GS s) {r : TRec} (hr : goodRec r = true) (h : (applyS s r).2 = true) : Keeps s (applyS s r).1 := by
  have hless : ∀ n x, x ≤ settled s → ∀ k ∈ lessH s.Held n, x ≤ k.Time - 1 := fun n x hx k hk => (V0.1 hx).2 k (Y9.1 hk).1
  have h0 := (V0.1 (Int.le_refl (settled s)))
  unfold applyS at h ⊢
  by_cases h4 : r.Kind = 4
  · rw [if_pos h4] at h ⊢
    have := of_decide_eq_true h
    exact ⟨by dsimp only; omega, fun _ h => h, Nat.le_refl _, V0.2 ⟨by dsimp only; omega, h0.2⟩, fun _ _ => rfl⟩
  · rw [if_neg h4] at h ⊢
    by_cases hT : hasT s.Told r.Txn = true
    · rw [if_pos hT] at h; cases h
    · rw [if_neg hT] at h ⊢
      by_cases h1 : r.Kind = 1
      · rw [if_pos h1] at h ⊢
        simp only [Bool.and_eq_true, Bool.not_eq_true', decide_eq_true_eq] at h
        refine ⟨by dsimp only; omega, fun _ h => h, Nat.le_refl _, V0.2 ⟨by dsimp only; omega, fun k hk => ?_⟩, fun _ _ => rfl⟩
        rcases d3.1 hk with rfl | hk
        · show _ ≤ r.Time - 1; omega
        · exact h0.2 k hk
      · rw [if_neg h1] at h ⊢
        by_cases hy : r.Yes = true
        · rw [if_pos hy] at h ⊢
          cases hf : findH s.Held r.Txn with
          | none => rw [hf] at h; cases h
          | some k =>
            rw [hf] at h
            dsimp only at h ⊢
            by_cases hlt : r.Time < k.Time
            · rw [if_pos hlt] at h; cases h
            · rw [if_neg hlt] at h ⊢
              by_cases hp : (putP s.Cells k.Writes r.Time).2 = true
              · rw [if_pos hp]
                obtain ⟨p1, p2⟩ := AD8 hp
                obtain ⟨k1, k2⟩ := l7 hf
                refine ⟨by unfold doneS; dsimp only; split <;> omega, fun u hu => AG7.2 (Or.inr hu), by unfold doneS; dsimp only; rw [(r7 _ _).length_eq]; simp, V0.2 ⟨by unfold doneS; dsimp only; split <;> omega, fun u hu => hless _ _ (Int.le_refl _) u hu⟩, fun a ha => ?_⟩
                exact put_at (by have := (V0.1 ha).2 k k1; omega) p1
              · rw [if_neg hp] at h; cases h
        · rw [if_neg hy]
          exact ⟨Int.le_refl _, fun u hu => AG7.2 (Or.inr hu), by unfold doneS; dsimp only; rw [(r7 _ _).length_eq]; simp, V0.2 ⟨h0.1, fun u hu => hless _ _ (Int.le_refl _) u hu⟩, fun _ _ => rfl⟩
theorem AW4 {s : TState} (g : GS s) {r : TRec} (hr : goodRec r = true) : Keeps s (stepS s r) := by
  unfold stepS
  split
  · exact Ar6 g hr ‹_›
  · exact Keeps.refl s
theorem AW5 : ∀ {l : List TRec} {s : TState}, GS s → (∀ r ∈ l, goodRec r = true) → Keeps s (stFrom s l)
  | [], s, g, _ => Keeps.refl s
  | r :: l, s, g, h => by
    show Keeps s (stFrom (stepS s r) l)
    exact (AW4 g (h r List.mem_cons_self)).trans (AW5 (AZ5 g (h r List.mem_cons_self)) fun x hx => h x (List.mem_cons_of_mem _ hx))
theorem Aa5 {s : TState} (g : GS s) : 0 ≤ settled s := V0.2 ⟨g.floor.1, fun h hm => by
  have := (g.good h hm).1
  unfold goodRec hRec at this
  rw [if_pos rfl] at this
  unfold good1 isTime within at this
  simp only [Bool.and_eq_true, decide_eq_true_eq] at this
  omega⟩
end Go.M

namespace Go.M
open Go.AV
def stateOfR (l : List TRec) : TState × List Bool × Bool := if l.length ≤ 60 ∧ l.all goodRec = true then (stFrom zState l, didFrom zState l, true) else (zState, [], false)
theorem AR1 {s : TState} {l : List TRec} {i : Nat} {r : TRec} (h : l[i]? = some r) : stFrom s (l.take (i + 1)) = stepS (stFrom s (l.take i)) r := by
  unfold stFrom
  rw [List.take_add_one, h, List.foldl_append]; rfl
theorem AE2 : ∀ {l : List TRec} {s : TState} {r : TRec}, didFrom s (l ++ [r]) = didFrom s l ++ [(applyS (stFrom s l) r).2]
  | [], s, r => rfl
  | x :: l, s, r => by
    show _ :: didFrom (stepS s x) (l ++ [r]) = _
    rw [AE2]; rfl
theorem AM0 {s : TState} {l : List TRec} {i : Nat} {r : TRec} (h : l[i]? = some r) : didFrom s (l.take (i + 1)) = didFrom s (l.take i) ++ [(applyS (stFrom s (l.take i)) r).2] := by
  rw [List.take_add_one, h]; exact AE2
def phi (s : TState) : Nat := sizeL TCell.size s.Cells + 3 * sizeL THeld.size s.Held + s.Told.length
theorem Am8 (s : TState) : s.size ≤ phi s := by
  have h1 : s.size = sizeL TCell.size s.Cells + sizeL THeld.size s.Held + s.Told.length := rfl
  unfold phi; omega
theorem Ay6 {α : Type} {f : α → Nat} {a b : List α} (h : a.Perm b) : sizeL f a = sizeL f b := by
  unfold sizeL; rw [h.length_eq, (h.map f).sum_nat]
theorem Am9 {t : Int} : ∀ {w : List TWrite} {l q : List TCell}, putAll l w t = some q → sizeL TCell.size q ≤ sizeL TCell.size l + 2 * sizeL TWrite.size w
  | [], l, q, h => by simp [putAll] at h; subst h; omega
  | x :: w, l, q, h => by
    unfold putAll at h
    split at h
    · cases h
    · have h1 := Am9 h
      have h2 := l5 l x t
      rw [Q1]; omega
theorem Ay7 {l : List THeld} {n : Int} {h : THeld} (hf : findH l n = some h) : sizeL THeld.size (lessH l n) + (1 + h.size) ≤ sizeL THeld.size l := by
  induction l with
  | nil => simp [findH] at hf
  | cons g l ih =>
    unfold findH at hf ih
    rw [List.find?_cons] at hf
    unfold lessH at ih ⊢
    by_cases e : g.Txn = n
    · rw [beq_iff_eq.2 e] at hf
      injection hf with hf; subst hf
      rw [List.filter_cons_of_neg (by simp [e]), Q1]
      have : sizeL THeld.size (l.filter fun h => h.Txn != n) ≤ sizeL THeld.size l := by
        clear ih
        induction l with
        | nil => exact Nat.le_refl _
        | cons y l ih =>
          rw [List.filter_cons]
          split
          · rw [Q1, Q1]; omega
          · rw [Q1]; omega
      omega
    · rw [beq_eq_false_iff_ne.2 e] at hf
      rw [List.filter_cons_of_pos (by simp [e]), Q1, Q1]
      have := ih hf; omega
theorem AR2 (l : List THeld) (n : Int) : sizeL THeld.size (lessH l n) ≤ sizeL THeld.size l := by
  induction l with
  | nil => exact Nat.le_refl _
  | cons y l ih =>
    unfold lessH at ih ⊢
    rw [List.filter_cons]
    split
    · rw [Q1, Q1]; omega
    · rw [Q1]; omega
theorem BC9 (s : TState) (r : TRec) : phi (applyS s r).1 ≤ phi s + 3 * (1 + r.size) + 1 := by
  have hh : (hOf r).size = r.size := rfl
  have hins : sizeL THeld.size (insH (hOf r) s.Held) = 1 + r.size + sizeL THeld.size s.Held := by rw [Ay6 (r6 _ _), Q1, hh]
  have htl : ∀ t : TTold, (insT t s.Told).length = s.Told.length + 1 := fun t => by rw [(r7 _ _).length_eq]; rfl
  have h2 := AR2 s.Held r.Txn
  unfold applyS
  split
  · unfold phi; dsimp only; omega
  · split
    · dsimp only; omega
    · split
      · unfold phi; dsimp only; rw [hins]; omega
      · split
        · cases hf : findH s.Held r.Txn with
          | none => dsimp only; omega
          | some h =>
            dsimp only
            split
            · dsimp only; omega
            · split
              · rename_i hp
                have h3 := Am9 (AD8 hp).1
                have h4 := Ay7 hf
                have h5 : h.size = sizeL (fun x => x.length) h.Reads + sizeL TWrite.size h.Writes := rfl
                unfold doneS phi; dsimp only; rw [htl]; omega
              · dsimp only; omega
        · unfold doneS phi; dsimp only; rw [htl]; omega
theorem phi_step (s : TState) (r : TRec) : phi (stepS s r) ≤ phi s + 3 * (1 + r.size) + 1 := by
  unfold stepS
  split
  · exact BC9 s r
  · omega
theorem AT5 {m : Nat} : ∀ {l : List TRec} {s : TState}, (∀ r ∈ l, r.size ≤ m) → phi (stFrom s l) ≤ phi s + l.length * (3 * (1 + m) + 1)
  | [], s, _ => by simp [stFrom]
  | r :: l, s, h => by
    have h1 := phi_step s r
    have h2 := AT5 (l := l) (s := stepS s r) fun x hx => h x (List.mem_cons_of_mem _ hx)
    have h3 := h r List.mem_cons_self
    have h4 : stFrom s (r :: l) = stFrom (stepS s r) l := rfl
    rw [h4, J7, Nat.add_mul, Nat.one_mul]
    omega
theorem Ah3 {r : TRec} (h : goodRec r = true) : r.size ≤ 400 := by
  have g := goodR h
  have h1 : sizeL (fun x : Str => x.length) r.Reads ≤ r.Reads.length * 13 := AB1 fun x hx => AV3 (g.reads.2 x hx)
  have h2 : sizeL TWrite.size r.Writes ≤ r.Writes.length * 37 := AB1 (f := TWrite.size) fun x hx => by
    have := g.writes.2 x hx
    have k1 := AV3 this.1
    have k2 := Aw6 this.2.1
    show x.Key.length + x.Val.length ≤ 36
    omega
  have h3 : r.size = sizeL (fun x : Str => x.length) r.Reads + sizeL TWrite.size r.Writes := rfl
  have := g.reads.1
  have := g.writes.1
  omega
def zTold : TTold := ⟨0, false, 0⟩
def zHeld : THeld := ⟨0, 0, 0, [], []⟩
def settledR (s : TState) : Int × Bool := if goodState s = true then (settled s, true) else (0, false)
theorem Ay8 {l : List TTold} {n : Int} : findT l n = none ↔ hasT l n = false := by
  unfold findT hasT; rw [List.find?_eq_none, List.any_eq_false]
theorem AM1 {l : List THeld} {i : Nat} {h : THeld} {o : Int} (hx : l[i]? = some h) : (l.take (i + 1)).foldl (fun o h => min o (h.Time - 1)) o = (if h.Time - 1 < (l.take i).foldl (fun o h => min o (h.Time - 1)) o then h.Time - 1 else (l.take i).foldl (fun o h => min o (h.Time - 1)) o) := by
  rw [List.take_add_one, hx, List.foldl_append]
  show min _ (h.Time - 1) = _
  split <;> omega
theorem AH4 {s : TState} (g : GS s) {h : THeld} (hm : h ∈ s.Held) : 1 ≤ h.Time ∧ h.Time ≤ 100000 ∧ adj wLess h.Writes = true := by
  obtain ⟨g1, g2, g3⟩ := g.good h hm
  have h1 := g1
  unfold goodRec hRec at h1
  rw [if_pos rfl] at h1
  unfold good1 isTime within at h1
  simp only [Bool.and_eq_true, decide_eq_true_eq] at h1
  exact ⟨by omega, by omega, AT3 g1⟩
end Go.M
namespace Go.Proofs.YtkegepoihkhihaaGreat
open Go Go.AV Go.M
attribute [local irreducible] OpW OpA OpS AWP FSpec ESpec GSpec OpE RetOk RetOkG RvDen Le Ev GuardIs SrcIs Int.tmod Int.tdiv IntKind.wrap
end Go.Proofs.YtkegepoihkhihaaGreat

namespace Go.M
open Go.AV
end Go.M
namespace Go.Proofs.YtkegepoihkhihaaGreat
open Go Go.AV Go.M
attribute [local irreducible] OpW OpA OpS AWP FSpec ESpec GSpec OpE RetOk RetOkG RvDen Le Ev GuardIs SrcIs Int.tmod Int.tdiv IntKind.wrap
theorem An0 (s : TState) (hg : goodState s = true) : FSpec Tryz.prog 85 [AV.agg s.cs] (AV.int (settled s)) := by
 have g := R4.1 hg
 have hhl := g.hlen
 refine D8 Tryz.func85 rfl Tryz.ntmps85 rfl ?_
 refine A3 (A2 ?_)
 refine L6 rfl rfl rfl rfl (A0 rfl) ?_
 intro b1
 refine A1 rfl (B3 rfl B5) ?_
 refine A4 (A3 (A2 ?_))
 refine A1 rfl (B2 0 rfl D2 rfl B9 (A0 rfl) rfl) ?_
 refine A1 rfl (B0 0 rfl (A0 rfl) rfl C1 rfl) ?_
 refine B4 rfl ?_
 refine A4 (A3 (A3 (A2 ?_)))
 refine A1 rfl (B2 2 rfl D2 rfl I6 (A0 rfl) rfl) ?_
 refine A1 rfl (B0 0 rfl (A0 rfl) rfl L8 rfl) ?_
 refine A1 rfl (G5 rfl E4 (A0 rfl)) ?_
 refine A1 rfl (B7 rfl B5) ?_
 refine A4 (D0 ?_)
 refine H4 [(2, _), (9, _), (10, _)] _ (fun (i : Nat) => i ≤ s.Held.length) (fun (i : Nat) => []) (fun (i : Nat) => [(3, AV.int ((s.Held.take i).foldl (fun o h => min o (h.Time - 1)) s.Floor)), (11, AV.int i)]) (fun (i : Nat) => s.Held.length - i) (0) ?_ (H8 ⟨rfl, rfl, rfl, rfl, rfl, trivial⟩) ?_
 ·exact Nat.zero_le _
 intro i hinv
 refine A3 (A2 ?_)
 refine A1 rfl (I4 rfl (A0 rfl) (A0 rfl)) ?_
 refine A4 (A3 ?_)
 refine C3 (A0 rfl) ?_ ?_
 ·intro h12
  have k12 := of_decide_eq_true h12; try simp only [A9] at k12
  have hlt : i < s.Held.length := by omega
  obtain ⟨h, hx⟩ := get_some hlt
  obtain ⟨q1, q2, q3⟩ := AH4 g (G6 hx)
  refine C8 (A3 (D0 (A3 (A2 ?_))))
  refine A1 rfl (H5 rfl E4 D9 (A0 rfl) (A0 rfl) hx (by first | omega | (simp only [D1, A7, szR] at *; omega))) ?_
  refine A1 rfl (J0 rfl (A0 rfl) J9 D9) ?_
  refine H3 rfl rfl rfl rfl Tryz.zeroValue141 rfl ?_
  intro b5
  refine E9 0 rfl rfl rfl (A0 rfl) (A0 rfl) (F9 _) rfl D9 rfl ?_
  refine A4 (A2 ?_)
  refine A5 rfl ?_
  refine A1 rfl (B2 1 rfl E8 rfl B9 (A0 rfl) rfl) ?_
  refine A1 rfl (B0 0 rfl (A0 rfl) rfl C1 rfl) ?_
  refine A1 rfl (Q5 rfl (A0 rfl) B5 (by first | omega | (simp only [D1, A7, szR] at *; omega))) ?_
  refine A1 rfl (w_min rfl (A0 rfl) (A0 rfl)) ?_
  refine B4 rfl ?_
  refine A4 (A2 ?_)
  refine A1 rfl (F6 rfl (A0 rfl) B5 (by first | omega | (simp only [D1, A7, szR] at *; omega))) ?_
  refine A5 rfl ?_
  refine A4 ?_
  refine J3 i (i + 1) ?_ ?_ (S0 1 ⟨congrArg (fun z => some (AV.int z)) (AM1 hx).symm, rfl, rfl, rfl, rfl, trivial⟩)
  ·omega
  omega
 intro h12
 have k12 := of_decide_eq_false h12; try simp only [A9] at k12
 have hge : s.Held.length ≤ i := by omega
 rw [List.take_of_length_le hge]
 refine G0 ?_
 refine A3 (A2 ?_)
 refine A5 rfl ?_
 refine B4 rfl ?_
 refine A4 ?_
 refine C2 ?_
 exact G1 rfl (B8 rfl (by rfl))
end Go.Proofs.YtkegepoihkhihaaGreat

namespace Go.Proofs.YtkegepoihkhihaaGreat
open Go Go.AV Go.M
attribute [local irreducible] OpW OpA OpS AWP FSpec ESpec GSpec OpE RetOk RetOkG RvDen Le Ev GuardIs SrcIs Int.tmod Int.tdiv IntKind.wrap
theorem u6 (l : List Str) (hl : l.length ≤ 4194304) : GSpec Tryz.prog 202 [strs l] [] (fun _ : Value => True) (fun v => [.arr v 9 1 (l.map fun s => [AV.str s])]) (fun v => AV.is v) := by
 refine N7 Tryz.func202 rfl Tryz.ntmps202 rfl ?_
 refine A3 (A2 ?_)
 refine A1 rfl (B3 rfl P8) ?_
 refine A4 (A3 (A2 ?_))
 refine O8 rfl rfl rfl rfl E5 E3 ?_
 intro v3
 refine A5 rfl ?_
 refine M6 (by' := 16) 0 rfl rfl rfl rfl E5 Tryz.type9 rfl rfl rfl rfl rfl rfl (A0 rfl) (A0 rfl) rfl (by simp only [L9, A9]; omega) ?_
 intro v5_1
 refine B4 rfl ?_
 refine A4 ?_
 refine C2 ?_
 exact T1 [0] v5_1 (trivial) rfl (by rfl) (c5 rfl (B8 rfl (by rfl)))
theorem AW6 (v : Value) (l : List Str) (s : Str) (hs : SrtS l) (hl : l.length ≤ 1000000) : GSpec Tryz.prog 169 [AV.is v, AV.str s] [.arr v 9 1 (l.map fun s => [AV.str s])] (fun _ : Value => True) (fun v' => [.arr v' 9 1 ((putS l s).map fun s => [AV.str s])]) (fun v' => AV.is v') := by
 refine N7 Tryz.func169 rfl Tryz.ntmps169 rfl ?_
 refine A3 (A2 ?_)
 refine A1 rfl (B3 rfl P8) ?_
 refine A4 (A3 (A2 ?_))
 refine A5 rfl ?_
 refine A1 rfl (e9 0 rfl E5 (A0 rfl) rfl) ?_
 refine B4 rfl ?_
 refine A4 (A3 (D0 ?_))
 refine H4 [(0, _), (1, _), (4, _)] _ (fun (k : Nat) => k ≤ l.length ∧ ∀ i y, k ≤ i → l[i]? = some y → Op.bytesLess s y = true) (fun (k : Nat) => []) (fun (k : Nat) => [(5, AV.int k)]) (fun (k : Nat) => k) (l.length) ?_ (H8 ⟨congrArg (fun z => some (AV.int z)) (by rw [A9]), rfl, rfl, rfl, trivial⟩) ?_
 ·exact ⟨Nat.le_refl _, fun i y h1 h2 => by (have := (List.getElem?_eq_some_iff.1 h2).1; omega)⟩
 intro k hinv
 obtain ⟨y, hy0⟩ : ∃ y, 0 < k → l[k - 1]? = some y := by (by_cases h9 : 0 < k; (have h8 := hinv.1; exact ⟨_, fun _ => List.getElem?_eq_getElem (show k - 1 < l.length by omega)⟩); exact ⟨[], fun h8 => absurd h8 h9⟩)
 refine A3 (A3 (A2 ?_))
 refine A5 rfl ?_
 refine A1 rfl (N6 rfl (A0 rfl) B5) ?_
 refine A5 rfl ?_
 refine C4 rfl (fun hc => B7 rfl (A0 rfl)) ?_
 refine C4 rfl (fun hc => B7 rfl (A0 rfl)) ?_
 refine C4 rfl (fun hc => Q5 rfl (A6 rfl hc) B5 (by first | omega | ((try simp only [D1, A7, szR] at *); omega) | (have hc2 := hc; simp only [M7, beq_iff_eq, bne_iff_ne, A9, E6] at hc2; omega))) ?_
 refine C4 rfl (fun hc => Y2 0 rfl E5 E3 (A6 rfl hc) rfl (A6 rfl hc) (by have := of_decide_eq_true hc; omega) (by have := of_decide_eq_true hc; have := hinv.1; simp only [A9]; omega)) ?_
 refine C4 rfl (fun hc => g7 0 rfl (A6 rfl hc) rfl F5 (y9 (hy0 (by have := of_decide_eq_true hc; omega)) (by have := of_decide_eq_true hc; omega))) ?_
 refine C4 rfl (fun hc => B7 rfl (A0 rfl)) ?_
 refine C4 rfl (fun hc => Aj2 rfl (A6 rfl hc) (A6 rfl hc)) ?_
 refine A1 rfl (G8 rfl (A0 rfl) (F1 rfl)) ?_
 refine A4 ?_
 refine C3 (A0 rfl) ?_ ?_
 ·intro h19
  have hkt : 0 < k ∧ Op.bytesLess s y = true := by (rw [Au3] at h19; simpa using h19)
  refine C8 (D0 (A2 ?_))
  refine A5 rfl ?_
  refine A1 rfl (Q5 rfl (A0 rfl) B5 (by first | omega | (simp only [D1, A7, szR] at *; omega))) ?_
  refine B4 rfl ?_
  refine A4 ?_
  refine c0 ?_
  refine J3 k (k - 1) ?_ ?_ (H8 ⟨congrArg (fun z => some (AV.int z)) (by omega), rfl, rfl, rfl, trivial⟩)
  ·exact ⟨by omega, fun i z hi hz => if e : k ≤ i then hinv.2 i z e hz else (by have e2 : i = k - 1 := (by omega); subst e2; rw [hy0 hkt.1] at hz; injection hz with hz; subst hz; exact hkt.2)⟩
  omega
 intro h19
 have hng : 0 < k → Op.bytesLess s y = false := fun h => by (rw [Au3] at h19; simpa [h] using h19)
 refine G0 ?_
 refine A3 (A3 (A2 ?_))
 refine A5 rfl ?_
 refine A1 rfl (N6 rfl (A0 rfl) B5) ?_
 refine A5 rfl ?_
 refine C4 rfl (fun hc => B7 rfl (A0 rfl)) ?_
 refine C4 rfl (fun hc => B7 rfl (A0 rfl)) ?_
 refine C4 rfl (fun hc => Q5 rfl (A6 rfl hc) B5 (by first | omega | ((try simp only [D1, A7, szR] at *); omega) | (have hc2 := hc; simp only [M7, beq_iff_eq, bne_iff_ne, A9, E6] at hc2; omega))) ?_
 refine C4 rfl (fun hc => Y2 0 rfl E5 E3 (A6 rfl hc) rfl (A6 rfl hc) (by have := of_decide_eq_true hc; omega) (by have := of_decide_eq_true hc; have := hinv.1; simp only [A9]; omega)) ?_
 refine C4 rfl (fun hc => g7 0 rfl (A6 rfl hc) rfl F5 (y9 (hy0 (by have := of_decide_eq_true hc; omega)) (by have := of_decide_eq_true hc; omega))) ?_
 refine C4 rfl (fun hc => B7 rfl (A0 rfl)) ?_
 refine C4 rfl (fun hc => p8 rfl (A6 rfl hc) (A6 rfl hc)) ?_
 refine A1 rfl (G8 rfl (A0 rfl) (F1 rfl)) ?_
 refine A4 ?_
 refine C3 (A0 rfl) ?_ ?_
 ·intro h32
  have hke : 0 < k ∧ y = s := by simpa using h32
  rw [AV4 hs (by rw [← hke.2]; exact hy0 hke.1)]
  refine A3 (A2 ?_)
  refine A5 rfl ?_
  refine B4 rfl ?_
  refine A4 ?_
  refine C2 ?_
  exact T1 [0] v (trivial) rfl (by first | rfl | exact congrArg (fun z => [Own.arr _ 9 1 z]) (by show List.map (fun s => [AV.str s]) (l.take k ++ s :: l.drop k) = (List.map (fun s => [AV.str s]) (l.take k) ++ [[AV.str s]]) ++ List.map (fun s => [AV.str s]) (l.drop k); simp)) (c5 rfl (B8 rfl (by rfl)))
 intro h32
 have hne : 0 < k → y ≠ s := fun h e => by simp [h, e] at h32
 rw [Ac9 hs hinv.1 hinv.2 (fun z hz hzz => by rw [hy0 hz] at hzz; injection hzz with hzz; subst hzz; exact ⟨hng hz, hne hz⟩)]
 refine C8 (A3 (A2 ?_))
 refine A5 rfl ?_
 refine A5 rfl ?_
 refine A1 rfl (Ai4 0 rfl E5 E3 (A0 rfl) rfl (A0 rfl) (by omega) (by simp only [A9]; omega)) ?_
 refine AA7 [] rfl rfl rfl rfl Tryz.call202 rfl (u6 (l.drop k) (by rw [List.length_drop]; omega)) rfl (R8 (Ak0 (A0 rfl) (lt_tailm (G6 (i := 0) rfl) (by omega) (by omega))) W5) (by first | exact I8 | (intro _; exact I8) | (intro _; first | exact E0 _ | exact D3 _ _ | exact C7 _ | exact D5 _ | exact D4) | (intro _; refine V7 ?_; (repeat (first | exact C9 | (refine B6 (by first | (first | exact E0 _ | exact D3 _ _ | exact C7 _ | exact D5 _ | exact D4) | (refine Q0 ?_; (repeat (first | exact C9 | (refine B6 (by first | exact E0 _ | exact D3 _ _ | exact C7 _ | exact D5 _ | exact D4) ?_))))) ?_))); done) | (intro _; refine Q0 ?_; (repeat (first | exact C9 | (refine B6 (by first | exact E0 _ | exact D3 _ _ | exact C7 _ | exact D5 _ | exact D4) ?_))); done) | ((repeat (first | exact I8 | (refine H7 (N8 ?_) ?_; (repeat (first | exact C9 | (refine B6 (by first | exact E0 _ | exact D3 _ _ | exact C7 _ | exact D5 _ | exact D4) ?_)))) | (refine H7 (N9 ?_) ?_; (repeat (first | exact O0 | (refine O2 (fun _ => ?_); (first | exact TWrite.flat _ | exact TFeedItem.flat _ | exact TIdx.flat _ | exact TVer.flat _ | (repeat (first | exact C9 | (refine B6 (by first | exact E0 _ | exact D3 _ _ | exact C7 _ | exact D5 _ | exact D4) ?_))))) | (refine O3 ?_; (first | exact TWrite.flat _ | exact TFeedItem.flat _ | exact TIdx.flat _ | exact TVer.flat _ | (repeat (first | exact C9 | (refine B6 (by first | exact E0 _ | exact D3 _ _ | exact C7 _ | exact D5 _ | exact D4) ?_))))) | (refine N0 ?_ ?_; (first | exact TWrite.flat _ | exact TFeedItem.flat _ | exact TIdx.flat _ | exact TVer.flat _ | (repeat (first | exact C9 | (refine B6 (by first | exact E0 _ | exact D3 _ _ | exact C7 _ | exact D5 _ | exact D4) ?_))))) | refine O1 ?_ ?_))))); done) | (intro _; (repeat (first | exact I8 | (refine H7 (N8 ?_) ?_; (repeat (first | exact C9 | (refine B6 (by first | exact E0 _ | exact D3 _ _ | exact C7 _ | exact D5 _ | exact D4) ?_)))) | (refine H7 (N9 ?_) ?_; (repeat (first | exact O0 | (refine O2 (fun _ => ?_); (first | exact TWrite.flat _ | exact TFeedItem.flat _ | exact TIdx.flat _ | exact TVer.flat _ | (repeat (first | exact C9 | (refine B6 (by first | exact E0 _ | exact D3 _ _ | exact C7 _ | exact D5 _ | exact D4) ?_))))) | (refine O3 ?_; (first | exact TWrite.flat _ | exact TFeedItem.flat _ | exact TIdx.flat _ | exact TVer.flat _ | (repeat (first | exact C9 | (refine B6 (by first | exact E0 _ | exact D3 _ _ | exact C7 _ | exact D5 _ | exact D4) ?_))))) | (refine N0 ?_ ?_; (first | exact TWrite.flat _ | exact TFeedItem.flat _ | exact TIdx.flat _ | exact TVer.flat _ | (repeat (first | exact C9 | (refine B6 (by first | exact E0 _ | exact D3 _ _ | exact C7 _ | exact D5 _ | exact D4) ?_))))) | refine O1 ?_ ?_))))); done)) (by first | exact I8 | (intro _; exact I8) | (intro _; first | exact E0 _ | exact D3 _ _ | exact C7 _ | exact D5 _ | exact D4) | (intro _; refine V7 ?_; (repeat (first | exact C9 | (refine B6 (by first | (first | exact E0 _ | exact D3 _ _ | exact C7 _ | exact D5 _ | exact D4) | (refine Q0 ?_; (repeat (first | exact C9 | (refine B6 (by first | exact E0 _ | exact D3 _ _ | exact C7 _ | exact D5 _ | exact D4) ?_))))) ?_))); done) | (intro _; refine Q0 ?_; (repeat (first | exact C9 | (refine B6 (by first | exact E0 _ | exact D3 _ _ | exact C7 _ | exact D5 _ | exact D4) ?_))); done) | ((repeat (first | exact I8 | (refine H7 (N8 ?_) ?_; (repeat (first | exact C9 | (refine B6 (by first | exact E0 _ | exact D3 _ _ | exact C7 _ | exact D5 _ | exact D4) ?_)))) | (refine H7 (N9 ?_) ?_; (repeat (first | exact O0 | (refine O2 (fun _ => ?_); (first | exact TWrite.flat _ | exact TFeedItem.flat _ | exact TIdx.flat _ | exact TVer.flat _ | (repeat (first | exact C9 | (refine B6 (by first | exact E0 _ | exact D3 _ _ | exact C7 _ | exact D5 _ | exact D4) ?_))))) | (refine O3 ?_; (first | exact TWrite.flat _ | exact TFeedItem.flat _ | exact TIdx.flat _ | exact TVer.flat _ | (repeat (first | exact C9 | (refine B6 (by first | exact E0 _ | exact D3 _ _ | exact C7 _ | exact D5 _ | exact D4) ?_))))) | (refine N0 ?_ ?_; (first | exact TWrite.flat _ | exact TFeedItem.flat _ | exact TIdx.flat _ | exact TVer.flat _ | (repeat (first | exact C9 | (refine B6 (by first | exact E0 _ | exact D3 _ _ | exact C7 _ | exact D5 _ | exact D4) ?_))))) | refine O1 ?_ ?_))))); done) | (intro _; (repeat (first | exact I8 | (refine H7 (N8 ?_) ?_; (repeat (first | exact C9 | (refine B6 (by first | exact E0 _ | exact D3 _ _ | exact C7 _ | exact D5 _ | exact D4) ?_)))) | (refine H7 (N9 ?_) ?_; (repeat (first | exact O0 | (refine O2 (fun _ => ?_); (first | exact TWrite.flat _ | exact TFeedItem.flat _ | exact TIdx.flat _ | exact TVer.flat _ | (repeat (first | exact C9 | (refine B6 (by first | exact E0 _ | exact D3 _ _ | exact C7 _ | exact D5 _ | exact D4) ?_))))) | (refine O3 ?_; (first | exact TWrite.flat _ | exact TFeedItem.flat _ | exact TIdx.flat _ | exact TVer.flat _ | (repeat (first | exact C9 | (refine B6 (by first | exact E0 _ | exact D3 _ _ | exact C7 _ | exact D5 _ | exact D4) ?_))))) | (refine N0 ?_ ?_; (first | exact TWrite.flat _ | exact TFeedItem.flat _ | exact TIdx.flat _ | exact TVer.flat _ | (repeat (first | exact C9 | (refine B6 (by first | exact E0 _ | exact D3 _ _ | exact C7 _ | exact D5 _ | exact D4) ?_))))) | refine O1 ?_ ?_))))); done)) (by first | exact I8 | (intro _; exact I8) | (intro _; first | exact E0 _ | exact D3 _ _ | exact C7 _ | exact D5 _ | exact D4) | (intro _; refine V7 ?_; (repeat (first | exact C9 | (refine B6 (by first | (first | exact E0 _ | exact D3 _ _ | exact C7 _ | exact D5 _ | exact D4) | (refine Q0 ?_; (repeat (first | exact C9 | (refine B6 (by first | exact E0 _ | exact D3 _ _ | exact C7 _ | exact D5 _ | exact D4) ?_))))) ?_))); done) | (intro _; refine Q0 ?_; (repeat (first | exact C9 | (refine B6 (by first | exact E0 _ | exact D3 _ _ | exact C7 _ | exact D5 _ | exact D4) ?_))); done) | ((repeat (first | exact I8 | (refine H7 (N8 ?_) ?_; (repeat (first | exact C9 | (refine B6 (by first | exact E0 _ | exact D3 _ _ | exact C7 _ | exact D5 _ | exact D4) ?_)))) | (refine H7 (N9 ?_) ?_; (repeat (first | exact O0 | (refine O2 (fun _ => ?_); (first | exact TWrite.flat _ | exact TFeedItem.flat _ | exact TIdx.flat _ | exact TVer.flat _ | (repeat (first | exact C9 | (refine B6 (by first | exact E0 _ | exact D3 _ _ | exact C7 _ | exact D5 _ | exact D4) ?_))))) | (refine O3 ?_; (first | exact TWrite.flat _ | exact TFeedItem.flat _ | exact TIdx.flat _ | exact TVer.flat _ | (repeat (first | exact C9 | (refine B6 (by first | exact E0 _ | exact D3 _ _ | exact C7 _ | exact D5 _ | exact D4) ?_))))) | (refine N0 ?_ ?_; (first | exact TWrite.flat _ | exact TFeedItem.flat _ | exact TIdx.flat _ | exact TVer.flat _ | (repeat (first | exact C9 | (refine B6 (by first | exact E0 _ | exact D3 _ _ | exact C7 _ | exact D5 _ | exact D4) ?_))))) | refine O1 ?_ ?_))))); done) | (intro _; (repeat (first | exact I8 | (refine H7 (N8 ?_) ?_; (repeat (first | exact C9 | (refine B6 (by first | exact E0 _ | exact D3 _ _ | exact C7 _ | exact D5 _ | exact D4) ?_)))) | (refine H7 (N9 ?_) ?_; (repeat (first | exact O0 | (refine O2 (fun _ => ?_); (first | exact TWrite.flat _ | exact TFeedItem.flat _ | exact TIdx.flat _ | exact TVer.flat _ | (repeat (first | exact C9 | (refine B6 (by first | exact E0 _ | exact D3 _ _ | exact C7 _ | exact D5 _ | exact D4) ?_))))) | (refine O3 ?_; (first | exact TWrite.flat _ | exact TFeedItem.flat _ | exact TIdx.flat _ | exact TVer.flat _ | (repeat (first | exact C9 | (refine B6 (by first | exact E0 _ | exact D3 _ _ | exact C7 _ | exact D5 _ | exact D4) ?_))))) | (refine N0 ?_ ?_; (first | exact TWrite.flat _ | exact TFeedItem.flat _ | exact TIdx.flat _ | exact TVer.flat _ | (repeat (first | exact C9 | (refine B6 (by first | exact E0 _ | exact D3 _ _ | exact C7 _ | exact D5 _ | exact D4) ?_))))) | refine O1 ?_ ?_))))); done)) ?_
 intro x37 ok37
 refine B4 rfl ?_
 refine A4 (A3 ?_)
 refine AWP.le (W7 [0] 6 rfl rfl (Q4 (G6 (i := 0) rfl) L7) (gin_cons 0 rfl rfl T0)) ?_
 refine A2 ?_
 refine A5 rfl ?_
 refine A5 rfl ?_
 refine sq_ahi 0 rfl rfl rfl rfl E5 E3 (A0 rfl) rfl (A0 rfl) (by omega) (by simp only [A9]; omega) ?_
 intro v40_1
 rw [Int.toNat_natCast, ← List.map_take]
 refine AA7 [] rfl rfl rfl rfl Tryz.call202 rfl (u6 (l.take k) (by rw [E6]; omega)) rfl (R8 (AY6 0 (A0 rfl) rfl) W5) (by first | exact I8 | (intro _; exact I8) | (intro _; first | exact E0 _ | exact D3 _ _ | exact C7 _ | exact D5 _ | exact D4) | (intro _; refine V7 ?_; (repeat (first | exact C9 | (refine B6 (by first | (first | exact E0 _ | exact D3 _ _ | exact C7 _ | exact D5 _ | exact D4) | (refine Q0 ?_; (repeat (first | exact C9 | (refine B6 (by first | exact E0 _ | exact D3 _ _ | exact C7 _ | exact D5 _ | exact D4) ?_))))) ?_))); done) | (intro _; refine Q0 ?_; (repeat (first | exact C9 | (refine B6 (by first | exact E0 _ | exact D3 _ _ | exact C7 _ | exact D5 _ | exact D4) ?_))); done) | ((repeat (first | exact I8 | (refine H7 (N8 ?_) ?_; (repeat (first | exact C9 | (refine B6 (by first | exact E0 _ | exact D3 _ _ | exact C7 _ | exact D5 _ | exact D4) ?_)))) | (refine H7 (N9 ?_) ?_; (repeat (first | exact O0 | (refine O2 (fun _ => ?_); (first | exact TWrite.flat _ | exact TFeedItem.flat _ | exact TIdx.flat _ | exact TVer.flat _ | (repeat (first | exact C9 | (refine B6 (by first | exact E0 _ | exact D3 _ _ | exact C7 _ | exact D5 _ | exact D4) ?_))))) | (refine O3 ?_; (first | exact TWrite.flat _ | exact TFeedItem.flat _ | exact TIdx.flat _ | exact TVer.flat _ | (repeat (first | exact C9 | (refine B6 (by first | exact E0 _ | exact D3 _ _ | exact C7 _ | exact D5 _ | exact D4) ?_))))) | (refine N0 ?_ ?_; (first | exact TWrite.flat _ | exact TFeedItem.flat _ | exact TIdx.flat _ | exact TVer.flat _ | (repeat (first | exact C9 | (refine B6 (by first | exact E0 _ | exact D3 _ _ | exact C7 _ | exact D5 _ | exact D4) ?_))))) | refine O1 ?_ ?_))))); done) | (intro _; (repeat (first | exact I8 | (refine H7 (N8 ?_) ?_; (repeat (first | exact C9 | (refine B6 (by first | exact E0 _ | exact D3 _ _ | exact C7 _ | exact D5 _ | exact D4) ?_)))) | (refine H7 (N9 ?_) ?_; (repeat (first | exact O0 | (refine O2 (fun _ => ?_); (first | exact TWrite.flat _ | exact TFeedItem.flat _ | exact TIdx.flat _ | exact TVer.flat _ | (repeat (first | exact C9 | (refine B6 (by first | exact E0 _ | exact D3 _ _ | exact C7 _ | exact D5 _ | exact D4) ?_))))) | (refine O3 ?_; (first | exact TWrite.flat _ | exact TFeedItem.flat _ | exact TIdx.flat _ | exact TVer.flat _ | (repeat (first | exact C9 | (refine B6 (by first | exact E0 _ | exact D3 _ _ | exact C7 _ | exact D5 _ | exact D4) ?_))))) | (refine N0 ?_ ?_; (first | exact TWrite.flat _ | exact TFeedItem.flat _ | exact TIdx.flat _ | exact TVer.flat _ | (repeat (first | exact C9 | (refine B6 (by first | exact E0 _ | exact D3 _ _ | exact C7 _ | exact D5 _ | exact D4) ?_))))) | refine O1 ?_ ?_))))); done)) (by first | exact I8 | (intro _; exact I8) | (intro _; first | exact E0 _ | exact D3 _ _ | exact C7 _ | exact D5 _ | exact D4) | (intro _; refine V7 ?_; (repeat (first | exact C9 | (refine B6 (by first | (first | exact E0 _ | exact D3 _ _ | exact C7 _ | exact D5 _ | exact D4) | (refine Q0 ?_; (repeat (first | exact C9 | (refine B6 (by first | exact E0 _ | exact D3 _ _ | exact C7 _ | exact D5 _ | exact D4) ?_))))) ?_))); done) | (intro _; refine Q0 ?_; (repeat (first | exact C9 | (refine B6 (by first | exact E0 _ | exact D3 _ _ | exact C7 _ | exact D5 _ | exact D4) ?_))); done) | ((repeat (first | exact I8 | (refine H7 (N8 ?_) ?_; (repeat (first | exact C9 | (refine B6 (by first | exact E0 _ | exact D3 _ _ | exact C7 _ | exact D5 _ | exact D4) ?_)))) | (refine H7 (N9 ?_) ?_; (repeat (first | exact O0 | (refine O2 (fun _ => ?_); (first | exact TWrite.flat _ | exact TFeedItem.flat _ | exact TIdx.flat _ | exact TVer.flat _ | (repeat (first | exact C9 | (refine B6 (by first | exact E0 _ | exact D3 _ _ | exact C7 _ | exact D5 _ | exact D4) ?_))))) | (refine O3 ?_; (first | exact TWrite.flat _ | exact TFeedItem.flat _ | exact TIdx.flat _ | exact TVer.flat _ | (repeat (first | exact C9 | (refine B6 (by first | exact E0 _ | exact D3 _ _ | exact C7 _ | exact D5 _ | exact D4) ?_))))) | (refine N0 ?_ ?_; (first | exact TWrite.flat _ | exact TFeedItem.flat _ | exact TIdx.flat _ | exact TVer.flat _ | (repeat (first | exact C9 | (refine B6 (by first | exact E0 _ | exact D3 _ _ | exact C7 _ | exact D5 _ | exact D4) ?_))))) | refine O1 ?_ ?_))))); done) | (intro _; (repeat (first | exact I8 | (refine H7 (N8 ?_) ?_; (repeat (first | exact C9 | (refine B6 (by first | exact E0 _ | exact D3 _ _ | exact C7 _ | exact D5 _ | exact D4) ?_)))) | (refine H7 (N9 ?_) ?_; (repeat (first | exact O0 | (refine O2 (fun _ => ?_); (first | exact TWrite.flat _ | exact TFeedItem.flat _ | exact TIdx.flat _ | exact TVer.flat _ | (repeat (first | exact C9 | (refine B6 (by first | exact E0 _ | exact D3 _ _ | exact C7 _ | exact D5 _ | exact D4) ?_))))) | (refine O3 ?_; (first | exact TWrite.flat _ | exact TFeedItem.flat _ | exact TIdx.flat _ | exact TVer.flat _ | (repeat (first | exact C9 | (refine B6 (by first | exact E0 _ | exact D3 _ _ | exact C7 _ | exact D5 _ | exact D4) ?_))))) | (refine N0 ?_ ?_; (first | exact TWrite.flat _ | exact TFeedItem.flat _ | exact TIdx.flat _ | exact TVer.flat _ | (repeat (first | exact C9 | (refine B6 (by first | exact E0 _ | exact D3 _ _ | exact C7 _ | exact D5 _ | exact D4) ?_))))) | refine O1 ?_ ?_))))); done)) (by first | exact I8 | (intro _; exact I8) | (intro _; first | exact E0 _ | exact D3 _ _ | exact C7 _ | exact D5 _ | exact D4) | (intro _; refine V7 ?_; (repeat (first | exact C9 | (refine B6 (by first | (first | exact E0 _ | exact D3 _ _ | exact C7 _ | exact D5 _ | exact D4) | (refine Q0 ?_; (repeat (first | exact C9 | (refine B6 (by first | exact E0 _ | exact D3 _ _ | exact C7 _ | exact D5 _ | exact D4) ?_))))) ?_))); done) | (intro _; refine Q0 ?_; (repeat (first | exact C9 | (refine B6 (by first | exact E0 _ | exact D3 _ _ | exact C7 _ | exact D5 _ | exact D4) ?_))); done) | ((repeat (first | exact I8 | (refine H7 (N8 ?_) ?_; (repeat (first | exact C9 | (refine B6 (by first | exact E0 _ | exact D3 _ _ | exact C7 _ | exact D5 _ | exact D4) ?_)))) | (refine H7 (N9 ?_) ?_; (repeat (first | exact O0 | (refine O2 (fun _ => ?_); (first | exact TWrite.flat _ | exact TFeedItem.flat _ | exact TIdx.flat _ | exact TVer.flat _ | (repeat (first | exact C9 | (refine B6 (by first | exact E0 _ | exact D3 _ _ | exact C7 _ | exact D5 _ | exact D4) ?_))))) | (refine O3 ?_; (first | exact TWrite.flat _ | exact TFeedItem.flat _ | exact TIdx.flat _ | exact TVer.flat _ | (repeat (first | exact C9 | (refine B6 (by first | exact E0 _ | exact D3 _ _ | exact C7 _ | exact D5 _ | exact D4) ?_))))) | (refine N0 ?_ ?_; (first | exact TWrite.flat _ | exact TFeedItem.flat _ | exact TIdx.flat _ | exact TVer.flat _ | (repeat (first | exact C9 | (refine B6 (by first | exact E0 _ | exact D3 _ _ | exact C7 _ | exact D5 _ | exact D4) ?_))))) | refine O1 ?_ ?_))))); done) | (intro _; (repeat (first | exact I8 | (refine H7 (N8 ?_) ?_; (repeat (first | exact C9 | (refine B6 (by first | exact E0 _ | exact D3 _ _ | exact C7 _ | exact D5 _ | exact D4) ?_)))) | (refine H7 (N9 ?_) ?_; (repeat (first | exact O0 | (refine O2 (fun _ => ?_); (first | exact TWrite.flat _ | exact TFeedItem.flat _ | exact TIdx.flat _ | exact TVer.flat _ | (repeat (first | exact C9 | (refine B6 (by first | exact E0 _ | exact D3 _ _ | exact C7 _ | exact D5 _ | exact D4) ?_))))) | (refine O3 ?_; (first | exact TWrite.flat _ | exact TFeedItem.flat _ | exact TIdx.flat _ | exact TVer.flat _ | (repeat (first | exact C9 | (refine B6 (by first | exact E0 _ | exact D3 _ _ | exact C7 _ | exact D5 _ | exact D4) ?_))))) | (refine N0 ?_ ?_; (first | exact TWrite.flat _ | exact TFeedItem.flat _ | exact TIdx.flat _ | exact TVer.flat _ | (repeat (first | exact C9 | (refine B6 (by first | exact E0 _ | exact D3 _ _ | exact C7 _ | exact D5 _ | exact D4) ?_))))) | refine O1 ?_ ?_))))); done)) ?_
 intro x41 ok41
 refine A5 rfl ?_
 refine A1 rfl (M0 rfl E5 E3 Tryz.zeroValue9 rfl rfl rfl rfl (F4 (A0 rfl) (T4 _) J5) rfl rfl) ?_
 refine M6 (by' := 16) 0 rfl rfl rfl rfl E5 Tryz.type9 rfl rfl rfl rfl rfl rfl (A0 rfl) (A0 rfl) rfl (by simp only [A9, E6, A7]; omega) ?_
 intro v44_2
 refine A5 rfl ?_
 refine M6 (by' := 16) 0 rfl rfl rfl rfl E5 Tryz.type9 rfl rfl rfl rfl rfl rfl (A0 rfl) (A0 rfl) rfl (by simp only [A9, E6, List.length_drop, J4, A7]; omega) ?_
 intro v46_3
 refine B4 rfl ?_
 refine A4 ?_
 refine C2 ?_
 exact T1 [0] v46_3 (trivial) rfl (by first | rfl | exact congrArg (fun z => [Own.arr _ 9 1 z]) (by show List.map (fun s => [AV.str s]) (l.take k ++ s :: l.drop k) = (List.map (fun s => [AV.str s]) (l.take k) ++ [[AV.str s]]) ++ List.map (fun s => [AV.str s]) (l.drop k); simp)) (c5 rfl (B8 rfl (by rfl)))
end Go.Proofs.YtkegepoihkhihaaGreat
