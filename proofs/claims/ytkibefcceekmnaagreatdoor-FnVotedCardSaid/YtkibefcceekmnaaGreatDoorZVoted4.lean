/- Texts of the claim, part 4. -/
import Derived.Lib.Join
import Derived.Test.YtkibefcceekmnaaGreatDoorZVoted3
set_option linter.unusedVariables false
set_option linter.unusedSimpArgs false
set_option maxRecDepth 100000
set_option maxHeartbeats 4000000
namespace Go.AV
section
variable {T X : Type} {ocs : T → X → List AV} {ow : T → X → List Own}
theorem AN9 {p' : T} {x' : X} : ∀ {l : List T} {xs : List X} {i : Nat}, (nrows ocs l xs).set i (ocs p' x') = nrows ocs (l.set i p') (xs.set i x')
  | [], _, _ => rfl
  | _ :: _, [], i => by cases i <;> rfl
  | _ :: _, _ :: _, 0 => rfl
  | a :: l, b :: xs, i + 1 => by
    show ocs a b :: (nrows ocs l xs).set i (ocs p' x') = ocs a b :: nrows ocs (l.set i p') (xs.set i x')
    rw [AN9]
theorem rows2 {p' : T} {x' : X} {l : List T} {xs : List X} {i : Nat} {r1 r2 : List AV} (h : r2 = ocs p' x') : nrows ocs (l.set i p') (xs.set i x') = ((nrows ocs l xs).set i r1).set i r2 := by
  rw [List.set_set, h, AN9]
theorem rows1 {p p' : T} {x : X} {l : List T} {xs : List X} {i : Nat} {r2 : List AV} (hp : l[i]? = some p) (hx : xs[i]? = some x) (h : r2 = ocs p' x) : nrows ocs (l.set i p') xs = (nrows ocs l xs).set i r2 := by
  rw [h, Ag4 hp hx]
theorem AO0 {l : List T} {xs : List X} {p' : T} {x' : X} {i : Nat} (hi : i < l.length) (hx : i < xs.length) : (ow p' x' ++ nin ow (l.eraseIdx i) (xs.eraseIdx i)).Perm (nin ow (l.set i p') (xs.set i x')) := by
  have h := n5 (ow := ow) (l := l.set i p') (xs := xs.set i x') (i := i) (List.getElem?_set_self hi) (List.getElem?_set_self hx)
  rw [List.eraseIdx_set_eq, List.eraseIdx_set_eq] at h
  exact h.symm
theorem AR4 {p1 p2 : T} (h : ∀ x, ow p1 x = ow p2 x) : ∀ {l : List T} {xs : List X} {i : Nat}, nin ow (l.set i p1) xs = nin ow (l.set i p2) xs
  | [], _, _ => rfl
  | _ :: _, [], i => by cases i <;> rfl
  | a :: l, x :: xs, 0 => by
    show ow p1 x ++ nin ow l xs = ow p2 x ++ nin ow l xs
    rw [h]
  | a :: l, x :: xs, i + 1 => by
    show ow a x ++ nin ow (l.set i p1) xs = ow a x ++ nin ow (l.set i p2) xs
    rw [AR4 h]
end
end Go.AV
namespace Go.M
open Go.AV
theorem ask_no {x : A5} {t : Int} (h : ¬ t > x.Term) : askV x t = x := by unfold askV; rw [if_neg qz6]
theorem ask_yes {x : A5} {t : Int} (h : t > x.Term) : askV x t = ⟨true, t, -1, [], false⟩ := by unfold askV; rw [if_pos qz6]
theorem askT {ty : Int → Str} {p : TPoll} {l : A7} {t : Int} (k : t > (C9 p l.To).Term) : e9 ty p l t = netP (g8 p l.To ⟨true, t, l.From, [], false⟩) (Y9 p.Net l.To l.From (ty t)) := by
  unfold e9
  rw [ask_yes k, if_pos (by simp [AG8])]
theorem askF {ty : Int → Str} {p : TPoll} {l : A7} {t : Int} (k : ¬ t > (C9 p l.To).Term) (h : (((C9 p l.To).Term == t) && (((C9 p l.To).For == -1) || ((C9 p l.To).For == l.From))) = true) : e9 ty p l t = netP (g8 p l.To { C9 p l.To with For := l.From }) (Y9 p.Net l.To l.From (ty t)) := by
  unfold e9
  rw [ask_no k, if_pos (show AG8 (C9 p l.To) t l.From = true from h)]
theorem AG3 {l : List A5} {i : Nat} {x : A5} (h : l[i]? = some x) : l.set i x = l := by
  apply List.ext_getElem?
  intro j
  by_cases hj : i = j
  · subst hj; rw [List.getElem?_set_self (List.getElem?_eq_some_iff.1 h).1, h]
  · rw [List.getElem?_set_ne hj]
end Go.M
namespace Go.Proofs.YtkibefcceekmnaaGreatDoor
open Go Go.AV Go.M
attribute [local irreducible] OpW OpA OpS AWP D3 P2 F0 OpE RetOk K2 M3 Le Ev I4 Q8 Int.tmod Int.tdiv IntKind.wrap
abbrev PBt (b : Nat) (p : TPoll) (v w : Value) (ys : List Value) : List Go.AV.Own := .box b 31 (pollC p v w) :: .arr v 40 5 (nrows A5.ocs p.Voters ys) :: .arr w 56 2 (p.Won.map G3.cs) :: .tab readW :: nin A5.ow p.Voters ys
abbrev PB (b : Nat) (p : TPoll) (v w : Value) (ys : List Value) : List Go.AV.Own := .box b 31 (pollC p v w) :: .arr v 40 5 (nrows A5.ocs p.Voters ys) :: .arr w 56 2 (p.Won.map G3.cs) :: nin A5.ow p.Voters ys
theorem askN {ty : Int → Str} {p : TPoll} {l : A7} {t : Int} (hp : p.Voters[l.To.toNat]? = some (C9 p l.To)) (k : ¬ t > (C9 p l.To).Term) (h : (((C9 p l.To).Term == t) && (((C9 p l.To).For == -1) || ((C9 p l.To).For == l.From))) = false) : e9 ty p l t = p := by
  unfold e9
  rw [ask_no k, if_neg (by unfold AG8; rw [h]; exact Bool.false_ne_true)]
  unfold g8
  rw [AG3 hp]
theorem pbt_eq {b : Nat} {q : TPoll} {v w : Value} {ys : List Value} {rows : List (List AV)} {tl : List Go.AV.Own} (hr : nrows A5.ocs q.Voters ys = rows) (ht : nin A5.ow q.Voters ys = tl) : PBt b q v w ys = .box b 31 (pollC q v w) :: .arr v 40 5 rows :: .arr w 56 2 (q.Won.map G3.cs) :: .tab readW :: tl := by
  subst hr; subst ht; rfl
theorem pbtT (b : Nat) (p : TPoll) (v w : Value) (ys : List Value) (k : Nat) (x1 x2 : A5) (z : Value) (n : D5) (h : ∀ y, A5.ow x2 y = A5.ow x1 y) : PBt b ⟨p.Voters.set k x2, n, p.Won⟩ v w (ys.set k z) = .box b 31 (AS3 n v w) :: .arr v 40 5 (((nrows A5.ocs p.Voters ys).set k (A5.ocs x1 z)).set k (A5.ocs x2 z)) :: .arr w 56 2 (p.Won.map G3.cs) :: .tab readW :: nin A5.ow (p.Voters.set k x1) (ys.set k z) :=
  pbt_eq (rows2 rfl) (AR4 h)
theorem pbtF (b : Nat) (p : TPoll) (v w : Value) (ys : List Value) {k : Nat} {x1 : A5} (x2 : A5) {z : Value} (n : D5) (hp : p.Voters[k]? = some x1) (hz : ys[k]? = some z) (h : ∀ y, A5.ow x2 y = A5.ow x1 y) : PBt b ⟨p.Voters.set k x2, n, p.Won⟩ v w ys = .box b 31 (AS3 n v w) :: .arr v 40 5 ((nrows A5.ocs p.Voters ys).set k (A5.ocs x2 z)) :: .arr w 56 2 (p.Won.map G3.cs) :: .tab readW :: nin A5.ow p.Voters ys := by
  refine pbt_eq (rows1 hp hz rfl) ?_
  show nin A5.ow (p.Voters.set k x2) ys = _
  rw [AR4 h, AG3 hp]
theorem Aq5 (b : Nat) (p : TPoll) (v w : Value) (ys : List Value) (l : A7) (t : Int) (g : GP p) (hl : isLetN p.Net l = true) (hy : ys.length = p.Voters.length) (ht : 1 ≤ t ∧ t ≤ 200) : F0 Tryz.prog 75 [AV.ptr b 0, AV.agg l.cs, AV.int t] (PBt b p v w ys) (fun zs : List Value => zs.length = p.Voters.length) (fun zs => PBt b (e9 tyI p l t) v w zs) (fun _ => AV.tup []) := by
 have hsz := V8 g
 obtain ⟨hn0, hnl, hp, hnn⟩ := n6 g (v := l.To) (by unfold isLetN at hl; simp only [Bool.and_eq_true] at hl; exact hl.1.1.1.2)
 obtain ⟨y, hyy⟩ := F8 (show l.To.toNat < ys.length by omega)
 have hrow := AH7 (ocs := A5.ocs) hp hyy
 have hil := An3 (n := t) qz6
 refine E1 Tryz.func75 rfl Tryz.ntmps75 rfl ?_
 refine R3 ?_
 intro b4
 refine R9 ?_
 refine B8 rfl rfl (L3 2 rfl B0 B4 (A0 rfl) rfl (A0 rfl) qz6 AW1) ?_
 refine R7 ?_
 refine A2 rfl (P7 2 rfl (A0 rfl) rfl qz1 rfl) ?_
 refine A2 rfl (J1 2 rfl D2 rfl D0 (A0 rfl) rfl rfl qz1) ?_
 refine A2 rfl (K0 2 rfl (A0 rfl) rfl K5 qz1 rfl) ?_
 refine R2 ?_
 refine A6 (A0 rfl) ?_ ?_
 ·intro h19
  have k19 := of_decide_eq_true h19; try simp only [A4] at k19
  refine Av2 3 1 ?_
  refine AWP.le (X6 6 (t := ([Go.AV.Own.arr y 3 1 ((C9 p l.To).Yes.map fun z => [AV.int z])]) ++ (nin A5.ow (p.Voters.eraseIdx l.To.toNat) (ys.eraseIdx l.To.toNat))) (n5 (ow := A5.ow) hp hyy)) ?_
  refine R4 ?_
  refine A2 rfl (P7 3 rfl (A0 rfl) rfl qz1 rfl) ?_
  refine V2 3 rfl rfl rfl (A0 rfl) (A0 rfl) (F2 _) rfl B4 rfl (by have h9 := (List.getElem?_eq_some_iff.1 hrow).1; first | omega | (simp only [List.length_set]; omega)) ?_
  refine R2 ?_
  refine AWP.le (C7 [1, 1, 1, 1, 1, 1, 0] rfl) ?_
  refine AWP.le (X6 6 (t := nin A5.ow (p.Voters.set l.To.toNat ⟨true, t, -1, [], false⟩) (ys.set l.To.toNat (Value.slice none 0 0))) (AO0 (ow := A5.ow) (p' := ⟨true, t, -1, [], false⟩) (x' := Value.slice none 0 0) hnl qz6)) ?_
  refine R2 ?_
  refine B8 rfl rfl (P7 2 rfl (A0 rfl) rfl qz1 rfl) ?_
  refine B8 rfl rfl (J1 2 rfl D2 rfl D0 (A0 rfl) rfl rfl qz1) ?_
  refine B8 rfl rfl (K0 2 rfl (A0 rfl) rfl K5 qz1 rfl) ?_
  refine R4 ?_
  refine N9 rfl (j7 rfl rfl rfl) (fun hc => P7 2 rfl (B9 rfl hc) rfl qz1 rfl) ?_
  refine N9 rfl (j7 rfl rfl rfl) (fun hc => J1 2 rfl D2 rfl D0 (B9 rfl hc) rfl rfl qz1) ?_
  refine N9 rfl (j7 rfl rfl rfl) (fun hc => K0 2 rfl (B9 rfl hc) rfl K5 qz1 rfl) ?_
  refine R3 ?_
  refine N9 rfl (i8 rfl rfl rfl) (fun hc => P7 2 rfl (B9 rfl hc) rfl qz1 rfl) ?_
  refine N9 rfl (i8 rfl rfl rfl) (fun hc => J1 2 rfl D2 rfl D0 (B9 rfl hc) rfl rfl qz1) ?_
  refine N9 rfl (i8 rfl rfl rfl) (fun hc => K0 2 rfl (B9 rfl hc) rfl K5 qz1 rfl) ?_
  refine R6 ?_
  refine A6 (A0 rfl) ?_ ?_
  ·intro h45
   first | rw [askT k19] | rw [askF k19 h45]
   refine R5 ?_
   refine A2 rfl (P7 2 rfl (A0 rfl) rfl qz1 rfl) ?_
   refine A2 rfl (J1 2 rfl D2 rfl D0 (A0 rfl) rfl rfl qz1) ?_
   refine T9 2 rfl rfl rfl (A0 rfl) (A0 rfl) (M9 _ _) rfl D0 qz1 rfl ?_
   refine R1 ?_
   refine H1 10 qz8 qz8 rfl ?_
   refine R8 ?_
   refine B8 rfl rfl (V7 rfl Tryz.call71 rfl (AI4 t qz6) (M0 _) (F6 (Ak6 4 rfl AJ1 (evb (A0 rfl))) N3)) ?_
   refine B8 rfl rfl (AM0 rfl (W5 (l := [121]) rfl) (A0 rfl) (by show [121].length + (l4 t).length ≤ _; simp; omega)) ?_
   refine R1 ?_
   refine E5 [1, 1, 1] rfl rfl rfl rfl Tryz.call70 rfl (AX5 b p.Net v w _ _ l.To l.From (tyI t) g.net (by show (121 :: l4 t).length ≤ _; simp; omega)) (A1 (A0 rfl) (A1 (A0 rfl) (A1 (A0 rfl) (A1 (A0 rfl) A3)))) rfl ?_
   intro x61 ok61
   refine R1 ?_
   exact j1 [0, 0, 0, 1] 2 (nin A5.ow (p.Voters.set l.To.toNat ⟨true, t, -1, [], false⟩) (ys.set l.To.toNat (Value.slice none 0 0))) [] ((ys.set l.To.toNat (Value.slice none 0 0))) (qz71) rfl (show List.Perm (nin A5.ow (p.Voters.set l.To.toNat ⟨true, t, -1, [], false⟩) (ys.set l.To.toNat (Value.slice none 0 0))) ((nin A5.ow (p.Voters.set l.To.toNat ⟨true, t, -1, [], false⟩) (ys.set l.To.toNat (Value.slice none 0 0))) ++ []) from Q1) qz20 (L7 rfl D1 E3)
  intro h45
  exfalso; simp at h45
 intro h19
 have k19 := of_decide_eq_false h19; try simp only [A4] at k19
 refine R4 ?_
 refine B8 rfl rfl (P7 2 rfl (A0 rfl) rfl qz1 rfl) ?_
 refine B8 rfl rfl (J1 2 rfl D2 rfl D0 (A0 rfl) rfl rfl qz1) ?_
 refine B8 rfl rfl (K0 2 rfl (A0 rfl) rfl K5 qz1 rfl) ?_
 refine R4 ?_
 refine N9 rfl (j7 rfl rfl rfl) (fun hc => P7 2 rfl (B9 rfl hc) rfl qz1 rfl) ?_
 refine N9 rfl (j7 rfl rfl rfl) (fun hc => J1 2 rfl D2 rfl D0 (B9 rfl hc) rfl rfl qz1) ?_
 refine N9 rfl (j7 rfl rfl rfl) (fun hc => K0 2 rfl (B9 rfl hc) rfl K5 qz1 rfl) ?_
 refine R3 ?_
 refine N9 rfl (i8 rfl rfl rfl) (fun hc => P7 2 rfl (B9 rfl hc) rfl qz1 rfl) ?_
 refine N9 rfl (i8 rfl rfl rfl) (fun hc => J1 2 rfl D2 rfl D0 (B9 rfl hc) rfl rfl qz1) ?_
 refine N9 rfl (i8 rfl rfl rfl) (fun hc => K0 2 rfl (B9 rfl hc) rfl K5 qz1 rfl) ?_
 refine R6 ?_
 refine A6 (A0 rfl) ?_ ?_
 ·intro h45
  first | rw [askT k19] | rw [askF k19 h45]
  refine R5 ?_
  refine A2 rfl (P7 2 rfl (A0 rfl) rfl qz1 rfl) ?_
  refine A2 rfl (J1 2 rfl D2 rfl D0 (A0 rfl) rfl rfl qz1) ?_
  refine T9 2 rfl rfl rfl (A0 rfl) (A0 rfl) (M9 _ _) rfl D0 qz1 rfl ?_
  refine R1 ?_
  refine H1 10 qz8 qz8 rfl ?_
  refine R8 ?_
  refine B8 rfl rfl (V7 rfl Tryz.call71 rfl (AI4 t qz6) (M0 _) (F6 (Ak6 4 rfl AJ1 (evb (A0 rfl))) N3)) ?_
  refine B8 rfl rfl (AM0 rfl (W5 (l := [121]) rfl) (A0 rfl) (by show [121].length + (l4 t).length ≤ _; simp; omega)) ?_
  refine R1 ?_
  refine E5 [1, 1, 1] rfl rfl rfl rfl Tryz.call70 rfl (AX5 b p.Net v w _ _ l.To l.From (tyI t) g.net (by show (121 :: l4 t).length ≤ _; simp; omega)) (A1 (A0 rfl) (A1 (A0 rfl) (A1 (A0 rfl) (A1 (A0 rfl) A3)))) rfl ?_
  intro x61 ok61
  refine R1 ?_
  exact j1 [0, 0, 0, 1] 1 (nin A5.ow p.Voters ys) [] (ys) (qz71) rfl (show List.Perm (nin A5.ow p.Voters ys) ((nin A5.ow p.Voters ys) ++ []) from Q1) qz20 (L7 rfl D1 E3)
 intro h45
 rw [askN hp k19 h45]
 refine R1 ?_
 exact j1 [1, 1, 1, 1] 1 (nin A5.ow p.Voters ys) [] (ys) (qz71) rfl (show List.Perm (nin A5.ow p.Voters ys) ((nin A5.ow p.Voters ys) ++ []) from Q1) qz20 (L7 rfl D1 E3)
end Go.Proofs.YtkibefcceekmnaaGreatDoor
namespace Go.M
open Go.AV
def posI (l : List Int) (n : Int) : Nat := (l.takeWhile fun x => decide (x < n)).length
def Ae9 (l : List Int) (n : Int) : Bool := l.any fun x => x == n
structure BsI (l : List Int) (n : Int) (i j : Nat) : Prop where
  le : i ≤ j ∧ j ≤ l.length
  lo : ∀ x ∈ l.take i, decide (x < n) = true
  hi : ∀ k x, j ≤ k → l[k]? = some x → n ≤ x
theorem bsI_lo {l : List Int} {n : Int} {i j m : Nat} {x : Int} (hs : adj ltI l = true) (h : BsI l n i j) (hm : i ≤ m ∧ m < j) (hx : l[m]? = some x) (hlt : x < n) : BsI l n (m + 1) j := by
  refine ⟨⟨by omega, h.le.2⟩, fun y hy => ?_, h.hi⟩
  obtain ⟨k, hk⟩ := List.getElem?_of_mem hy
  have hkl := (List.getElem?_eq_some_iff.1 hk).1
  rw [G8] at hkl
  rw [List.getElem?_take_of_lt qz6] at hk
  by_cases e : k = m
  · subst e; rw [hx] at hk; injection hk with hk; subst hk; exact decide_eq_true hlt
  · have := AK7 AH9 hs (show k < m by omega) hk hx
    unfold ltI at this
    have := of_decide_eq_true this
    exact decide_eq_true qz6
theorem bsI_hi {l : List Int} {n : Int} {i j m : Nat} {x : Int} (hs : adj ltI l = true) (h : BsI l n i j) (hm : i ≤ m ∧ m < j) (hx : l[m]? = some x) (hge : ¬ x < n) : BsI l n i m := by
  refine ⟨⟨by omega, by have := h.le; omega⟩, h.lo, fun k y hk hy => ?_⟩
  by_cases e : k = m
  · subst e; rw [hx] at hy; injection hy with hy; subst hy; omega
  · have := AK7 AH9 hs (show m < k by omega) hx hy
    unfold ltI at this
    have := of_decide_eq_true this
    omega
theorem At8 {l : List Int} {n : Int} {i j : Nat} (h : BsI l n i j) (hij : j ≤ i) : posI l n = i := by
  have hl := h.le
  refine Aa1 qz6 h.lo ?_
  by_cases e : i = l.length
  · exact .inl e
  · obtain ⟨x, hx⟩ := F8 (show i < l.length by omega)
    exact .inr ⟨x, hx, decide_eq_false (by have := h.hi i x hij hx; omega)⟩
theorem Ae3 {l : List Int} {n : Int} {i j : Nat} (hs : adj ltI l = true) (h : BsI l n i j) (hij : j ≤ i) : Ae9 l n = decide (l[i]? = some n) := by
  unfold Ae9
  rw [Bool.eq_iff_iff, List.any_eq_true, decide_eq_true_eq]
  constructor
  · rintro ⟨x, hx, e⟩
    have e := beq_iff_eq.1 e
    subst e
    obtain ⟨k, hk⟩ := List.getElem?_of_mem hx
    by_cases hki : k < i
    · have := of_decide_eq_true (h.lo x (D9 (i := k) (by rw [List.getElem?_take_of_lt hki]; exact hk)))
      omega
    · by_cases e : k = i
      · subst e; exact hk
      · exfalso
        have hkl := (List.getElem?_eq_some_iff.1 hk).1
        obtain ⟨y, hy⟩ := F8 (show i < l.length by omega)
        have h1 := h.hi i y hij hy
        have h2 := AK7 AH9 hs (show i < k by omega) hy hk
        unfold ltI at h2
        have := of_decide_eq_true h2
        omega
  · intro hx
    exact ⟨n, D9 hx, beq_self_eq_true n⟩
theorem put_at {l : List Int} {n : Int} (h : Ae9 l n = false) : f0 l n = l.take (posI l n) ++ n :: l.drop (posI l n) := by
  unfold f0
  rw [if_neg (by rw [show (l.any fun x => x == n) = false from h]; exact Bool.false_ne_true)]
  unfold posI
  have e := List.takeWhile_append_dropWhile (p := fun x => decide (x < n)) (l := l)
  have h1 : l.take (l.takeWhile fun x => decide (x < n)).length = l.takeWhile fun x => decide (x < n) := by
    conv => lhs; rw [← e]
    rw [List.take_append_of_le_length (by rw [e]; exact Nat.le_refl _)]
    rw [e]
    exact List.take_length
  have h2 : l.drop (l.takeWhile fun x => decide (x < n)).length = l.dropWhile fun x => decide (x < n) := by
    have h3 := List.take_append_drop (l.takeWhile fun x => decide (x < n)).length l
    rw [h1] at h3
    exact List.append_cancel_left (h3.trans e.symm)
  rw [h1, h2]
theorem At9 {l : List Int} {n : Int} (h : Ae9 l n = true) : f0 l n = l := by
  unfold f0; rw [if_pos (show (l.any fun x => x == n) = true from h)]
theorem posI_le (l : List Int) (n : Int) : posI l n ≤ l.length := (List.takeWhile_prefix (l := l) fun x => decide (x < n)).length_le
end Go.M
namespace Go.Proofs.YtkibefcceekmnaaGreatDoor
open Go Go.AV Go.M
attribute [local irreducible] OpW OpA OpS AWP D3 P2 F0 OpE RetOk K2 M3 Le Ev I4 Q8 Int.tmod Int.tdiv IntKind.wrap
theorem AR5 (x : Int) : D3 Tryz.prog 114 [AV.int x] (AV.bool false) := by
  refine C6 Tryz.func114 rfl Tryz.ntmps114 rfl ?_
  refine R12 ?_
  exact H5 rfl (A8 rfl qz82)
theorem AR6 (x : Int) : D3 Tryz.prog 130 [AV.int x] (AV.bool false) := by
  refine C6 Tryz.func130 rfl Tryz.ntmps130 rfl ?_
  refine R12 ?_
  exact H5 rfl (A8 rfl qz82)
theorem Aw6 (x y : Int) : D3 Tryz.prog 113 [AV.int x, AV.int y] (AV.bool (decide (x < y))) := by
  refine C6 Tryz.func113 rfl Tryz.ntmps113 rfl ?_
  refine R7 ?_
  refine A2 rfl (B3 rfl Tryz.call130 rfl (AR6 _) (A1 (A0 rfl) A3)) ?_
  refine R2 ?_
  refine U5 rfl (fun hc => B3 rfl Tryz.call130 rfl (AR6 _) (A1 (B9 rfl hc) A3)) ?_
  refine R10 ?_
  exact H5 rfl (A8 rfl qz82)
theorem AI5 (l : List Int) (n : Int) (hs : adj ltI l = true) (hl : l.length ≤ 1000000) : D3 Tryz.prog 101 [ints l, AV.int n] (AV.tup [AV.int (posI l n : Nat), AV.bool (Ae9 l n)]) := by
 refine C6 Tryz.func101 rfl Tryz.ntmps101 rfl ?_
 refine R19 ?_
 refine S3 [(0, _), (1, _), (4, _), (5, _), (6, _)] _ (fun (i : Nat) (j : Nat) => BsI l n i j) (fun (i : Nat) (j : Nat) => []) (fun (i : Nat) (j : Nat) => [(7, AV.int i), (8, AV.int j)]) (fun (i : Nat) (j : Nat) => j - i) (0) ((l.map fun x => [AV.int x]).length) ?_ (K6 ⟨rfl, rfl, rfl, rfl, rfl, rfl, rfl, trivial⟩) ?_
 ·exact ⟨⟨Nat.zero_le _, by simp⟩, fun x hx => (by cases hx), fun k x hk hx => (by rw [A4] at hk; have := (List.getElem?_eq_some_iff.1 hx).1; omega)⟩
 intro i j hinv
 refine R7 ?_
 refine A6 (A0 rfl) ?_ ?_
 ·intro h15
  have k15 := of_decide_eq_true h15; try simp only [A4] at k15
  have hlt : i < j := by omega
  have hle := hinv.le
  obtain ⟨x, hx⟩ := F8 (show (i + j) / 2 < l.length by omega)
  refine R6 ?_
  refine A2 rfl (Aj6 rfl (A0 rfl) (A0 rfl) qz6) ?_
  refine A2 rfl (o7 rfl qz8 Tryz.underlying84 (A0 rfl)) ?_
  refine A2 rfl (w_shr rfl (A0 rfl) D4 D1 D1) ?_
  refine A2 rfl (o7 rfl qz8 J8 (A0 rfl)) ?_
  rw [half_eq qz6]
  refine R6 ?_
  refine A2 rfl (H3 rfl B5 D0 (A0 rfl) (A0 rfl) hx qz3) ?_
  refine R2 ?_
  refine A2 rfl (B3 rfl Tryz.call113 rfl (Aw6 _ _) (A1 (A0 rfl) (A1 (A0 rfl) A3))) ?_
  refine R1 ?_
  refine A6 (A0 rfl) ?_ ?_
  ·intro h27
   refine R5 ?_
   refine AP4 ?_
   refine Q5 i j ((i + j) / 2 + 1) (j) ?_ ?_ (K6 ⟨rfl, rfl, rfl, rfl, rfl, rfl, rfl, trivial⟩)
   ·exact bsI_lo hs hinv qz6 hx (of_decide_eq_true h27)
   omega
  intro h27
  refine R4 ?_
  refine AP4 ?_
  refine Q5 i j (i) ((i + j) / 2) ?_ ?_ (K6 ⟨rfl, rfl, rfl, rfl, rfl, rfl, rfl, trivial⟩)
  ·exact bsI_hi hs hinv qz6 hx (of_decide_eq_false h27)
  omega
 intro h15
 have k15 := of_decide_eq_false h15; try simp only [A4] at k15
 have hle := hinv.le
 have hpe := At8 hinv qz6
 have hha := Ae3 hs hinv qz6
 obtain ⟨y, hy⟩ := As4 l i
 refine R10 ?_
 refine U5 rfl (fun hc => H3 rfl B5 D0 (B9 rfl hc) (B9 rfl hc) (hy AJ3) rfl) ?_
 refine R6 ?_
 refine o6 rfl rfl (i8 rfl rfl rfl) (fun hc => H3 rfl B5 D0 (B9 rfl hc) (B9 rfl hc) (hy AJ3) rfl) ?_
 refine R1 ?_
 refine o6 rfl rfl (i8 rfl rfl rfl) (fun hc => B3 rfl Tryz.call114 rfl (AR5 _) (A1 (B9 rfl hc) A3)) ?_
 refine R2 ?_
 refine o6 rfl rfl (r3 rfl rfl rfl) (fun hc => B3 rfl Tryz.call114 rfl (AR5 _) (A1 (B9 rfl hc) A3)) ?_
 refine R7 ?_
 exact O3 rfl D1 (B2 (A8 rfl qz50) (B2 (A8 rfl qz50) E3))
theorem yesPn {p : TPoll} {l : A7} {t : Int} (h : U4 (C9 p l.To) l.To t = false) : yesP p l t = p := by
  unfold yesP; rw [if_neg (by rw [h]; exact Bool.false_ne_true)]
theorem yesPs {p : TPoll} {l : A7} {t : Int} (h : U4 (C9 p l.To) l.To t = true) (k : wins (P9 (C9 p l.To) l.From) p.Voters.length = false) : yesP p l t = g8 p l.To (P9 (C9 p l.To) l.From) := by
  unfold yesP; rw [if_pos h, if_neg (by rw [k]; exact Bool.false_ne_true)]
theorem yesPw {p : TPoll} {l : A7} {t : Int} (h : U4 (C9 p l.To) l.To t = true) (k : wins (P9 (C9 p l.To) l.From) p.Voters.length = true) : yesP p l t = ⟨p.Voters.set l.To.toNat { P9 (C9 p l.To) l.From with Leads := true }, p.Net, if (p.Won.length : Int) < 60 then p.Won ++ [⟨t, l.To⟩] else p.Won⟩ := by
  unfold yesP; rw [if_pos h, if_pos k]
theorem pb_eq {b : Nat} {q : TPoll} {v w : Value} {ys : List Value} {rows : List (List AV)} {tl : List Go.AV.Own} (hr : nrows A5.ocs q.Voters ys = rows) (ht : nin A5.ow q.Voters ys = tl) : PB b q v w ys = .box b 31 (pollC q v w) :: .arr v 40 5 rows :: .arr w 56 2 (q.Won.map G3.cs) :: tl := by
  subst hr; subst ht; rfl
theorem Au0 {x : A5} {n : Nat} (h : (decide (2 * (x.Yes.length : Int) ≤ (n : Int)) || x.Leads) = true) : wins x n = false := by
  unfold wins
  rw [Bool.or_eq_true, decide_eq_true_eq] at h
  rcases h with h | h
  · rw [decide_eq_false (show ¬ (n : Int) < 2 * (x.Yes.length : Int) by omega)]; rfl
  · rw [h]; simp
theorem Au1 {x : A5} {n : Nat} (h : (decide (2 * (x.Yes.length : Int) ≤ (n : Int)) || x.Leads) = false) : wins x n = true := by
  unfold wins
  rw [Bool.or_eq_false_iff, decide_eq_false_iff_not] at h
  rw [decide_eq_true (show (n : Int) < 2 * (x.Yes.length : Int) by omega), h.2]; rfl
theorem pbV (b : Nat) (p : TPoll) (v w : Value) (ys : List Value) (k : Nat) (x1 : A5) (z : Value) : PB b ⟨p.Voters.set k x1, p.Net, p.Won⟩ v w (ys.set k z) = .box b 31 (pollC p v w) :: .arr v 40 5 ((nrows A5.ocs p.Voters ys).set k (A5.ocs x1 z)) :: .arr w 56 2 (p.Won.map G3.cs) :: nin A5.ow (p.Voters.set k x1) (ys.set k z) :=
  pb_eq (AN9).symm rfl
theorem pbT2 (b : Nat) (p : TPoll) (v w : Value) (ys : List Value) (k : Nat) (x1 x2 : A5) (z : Value) (W : List G3) (h : ∀ y, A5.ow x2 y = A5.ow x1 y) : PB b ⟨p.Voters.set k x2, p.Net, W⟩ v w (ys.set k z) = .box b 31 (pollC p v w) :: .arr v 40 5 (((nrows A5.ocs p.Voters ys).set k (A5.ocs x1 z)).set k (A5.ocs x2 z)) :: .arr w 56 2 (W.map G3.cs) :: nin A5.ow (p.Voters.set k x1) (ys.set k z) :=
  pb_eq (rows2 rfl) (AR4 h)
theorem pbT2a (b : Nat) (p : TPoll) (v w : Value) (ys : List Value) (k : Nat) (x1 x2 : A5) (z : Value) (n : G3) (h : ∀ y, A5.ow x2 y = A5.ow x1 y) : PB b ⟨p.Voters.set k x2, p.Net, p.Won ++ [n]⟩ v w (ys.set k z) = .box b 31 (pollC p v w) :: .arr v 40 5 (((nrows A5.ocs p.Voters ys).set k (A5.ocs x1 z)).set k (A5.ocs x2 z)) :: .arr w 56 2 (p.Won.map G3.cs ++ [n.cs]) :: nin A5.ow (p.Voters.set k x1) (ys.set k z) := by
  rw [pbT2 b p v w ys k x1 x2 z _ h, List.map_append]; rfl
theorem pbW (b : Nat) (p : TPoll) (v w : Value) (ys : List Value) {k : Nat} {x1 : A5} (x2 : A5) (W : List G3) {z : Value} (hp : p.Voters[k]? = some x1) (hz : ys[k]? = some z) (h : ∀ y, A5.ow x2 y = A5.ow x1 y) : PB b ⟨p.Voters.set k x2, p.Net, W⟩ v w ys = .box b 31 (pollC p v w) :: .arr v 40 5 ((nrows A5.ocs p.Voters ys).set k (A5.ocs x2 z)) :: .arr w 56 2 (W.map G3.cs) :: nin A5.ow p.Voters ys := by
  refine pb_eq (rows1 hp hz rfl) ?_
  show nin A5.ow (p.Voters.set k x2) ys = _
  rw [AR4 h, AG3 hp]
theorem pbWa (b : Nat) (p : TPoll) (v w : Value) (ys : List Value) {k : Nat} {x1 : A5} (x2 : A5) (n : G3) {z : Value} (hp : p.Voters[k]? = some x1) (hz : ys[k]? = some z) (h : ∀ y, A5.ow x2 y = A5.ow x1 y) : PB b ⟨p.Voters.set k x2, p.Net, p.Won ++ [n]⟩ v w ys = .box b 31 (pollC p v w) :: .arr v 40 5 ((nrows A5.ocs p.Voters ys).set k (A5.ocs x2 z)) :: .arr w 56 2 (p.Won.map G3.cs ++ [n.cs]) :: nin A5.ow p.Voters ys := by
  rw [pbW b p v w ys x2 _ hp hz h, List.map_append]; rfl
theorem Ai7 (b : Nat) (p : TPoll) (v w : Value) (ys : List Value) (l : A7) (t : Int) (g : GP p) (hl : isLetN p.Net l = true) (hy : ys.length = p.Voters.length) : F0 Tryz.prog 76 [AV.ptr b 0, AV.agg l.cs, AV.int t] (PB b p v w ys) (fun x : Value × Value × List Value => x.2.2.length = p.Voters.length) (fun x => PB b (yesP p l t) x.1 x.2.1 x.2.2) (fun _ => AV.tup []) := by
 have hsz := V8 g
 have hnt : H2 p.Net l.To = true := by unfold isLetN at hl; simp only [Bool.and_eq_true] at hl; exact hl.1.1.1.2
 obtain ⟨hn0, hnl, hp, hnn⟩ := n6 g hnt
 obtain ⟨y, hyy⟩ := F8 (show l.To.toNat < ys.length by omega)
 have hrow := AH7 (ocs := A5.ocs) hp hyy
 have hrl := (List.getElem?_eq_some_iff.1 hrow).1
 obtain ⟨X, hX⟩ : ∃ X, C9 p l.To = X := ⟨_, rfl⟩
 have hgv := c1 g hnt
 rw [hX] at hp hrow hgv
 have hyl := hsz.voters.2 X (D9 hp)
 have hsr : adj ltI X.Yes = true := by
  have h9 := (K3.1 hgv).2.2.1
  unfold T4 at h9
  rw [Bool.and_eq_true] at h9
  exact h9.2
 have hv5 := hsz.voters.1
 have hw6 := g.won
 have hnrl : (nrows A5.ocs p.Voters ys).length = p.Voters.length := AH6 hy
 cases hh : Ae9 X.Yes l.From with
 | true =>
  have hyv : P9 X l.From = X := by unfold P9; rw [At9 hh]
  refine E1 Tryz.func76 rfl Tryz.ntmps76 rfl ?_
  refine R3 ?_
  intro b4
  refine R9 ?_
  refine B8 rfl rfl (L3 2 rfl B0 B4 (A0 rfl) rfl (A0 rfl) qz6 qz6) ?_
  refine R6 ?_
  refine B8 rfl rfl (P7 2 rfl (A0 rfl) rfl qz1 rfl) ?_
  refine B8 rfl rfl (J1 2 rfl D2 rfl D0 (A0 rfl) rfl rfl qz1) ?_
  refine B8 rfl rfl (K0 2 rfl (A0 rfl) rfl K5 qz1 rfl) ?_
  refine R4 ?_
  refine N9 rfl (V6 rfl rfl rfl) (fun hc => P7 2 rfl (B9 rfl hc) rfl qz1 rfl) ?_
  refine N9 rfl (V6 rfl rfl rfl) (fun hc => J1 2 rfl D2 rfl D0 (B9 rfl hc) rfl rfl qz1) ?_
  refine N9 rfl (V6 rfl rfl rfl) (fun hc => K0 2 rfl (B9 rfl hc) rfl K5 qz1 rfl) ?_
  refine R5 ?_
  refine A6 (A0 rfl) ?_ ?_
  ·intro h30
   have hA9 : True := trivial
   rw [yesPn (by unfold U4; rw [hX]; rw [← Bool.not_eq_true', Bool.not_and]; exact h30)]
   refine R1 ?_
   exact j1 [1, 1, 1] 1 (nin A5.ow p.Voters ys) [] ((v, w, ys)) (AP3) rfl (show List.Perm (nin A5.ow p.Voters ys) ((nin A5.ow p.Voters ys) ++ []) from Q1) qz17 (L7 rfl D1 E3)
  intro h30
  have hmc : U4 (C9 p l.To) l.To t = true := qz58
  refine R3 ?_
  refine AWP.le (X6 4 (t := ([Go.AV.Own.arr y 3 1 (X.Yes.map fun z => [AV.int z])]) ++ (nin A5.ow (p.Voters.eraseIdx l.To.toNat) (ys.eraseIdx l.To.toNat))) (n5 (ow := A5.ow) hp hyy)) ?_
  refine R2 ?_
  refine B8 rfl rfl (P7 2 rfl (A0 rfl) rfl qz1 rfl) ?_
  refine B8 rfl rfl (J1 2 rfl D2 rfl I6 (A0 rfl) rfl rfl qz1) ?_
  refine B8 rfl rfl (K0 2 rfl (A0 rfl) rfl S6 qz1 rfl) ?_
  refine R2 ?_
  refine B8 rfl rfl (V7 rfl Tryz.call101 rfl (AI5 X.Yes l.From hsr hyl) (AX0 (C1 (F9 _ _) (C1 (M4 _) G7))) (F6 (Ar8 4 (A0 rfl) rfl) (F6 (evb (A0 rfl)) N3))) ?_
  refine R11 ?_
  refine A6 (A0 rfl) ?_ ?_
  ·intro h42
   rw [hh] at h42; cases h42
  intro h42
  refine R3 ?_
  refine f5 qz23 ?_
  refine R2 ?_
  refine B8 rfl rfl (P7 2 rfl (A0 rfl) rfl qz1 rfl) ?_
  refine B8 rfl rfl (J1 2 rfl D2 rfl I6 (A0 rfl) rfl rfl qz1) ?_
  refine B8 rfl rfl (K0 2 rfl (A0 rfl) rfl S6 qz1 rfl) ?_
  refine R1 ?_
  refine B8 rfl rfl (u2 rfl D4 (A0 rfl) (by rw [A4]; have h9 := AT4 X.Yes l.From; omega)) ?_
  refine R8 ?_
  refine N9 rfl (V6 rfl rfl rfl) (fun hc => P7 2 rfl (B9 rfl hc) rfl qz1 rfl) ?_
  refine N9 rfl (V6 rfl rfl rfl) (fun hc => J1 2 rfl D2 rfl N6 (B9 rfl hc) rfl rfl qz1) ?_
  refine N9 rfl (V6 rfl rfl rfl) (fun hc => K0 2 rfl (B9 rfl hc) rfl X1 qz1 rfl) ?_
  refine R2 ?_
  refine A6 (A0 rfl) ?_ ?_
  ·intro h72
   have hB9 : True := trivial
   have hwn : wins X p.Voters.length = false := Au0 (by rw [A4, hnrl] at h72; exact h72)
   rw [yesPs hmc (by rw [hX, hyv]; exact hwn), hX, hyv]
   rw [show g8 p l.To X = p from by unfold g8; rw [AG3 hp]]
   refine AWP.le (C7 [0, 0, 0, 0, 0] rfl) ?_
   refine AWP.le (X6 4 (t := nin A5.ow p.Voters ys) ((n5 (ow := A5.ow) hp hyy).symm)) ?_
   refine R1 ?_
   exact j1 [1, 1, 1] 1 (nin A5.ow p.Voters ys) [] ((v, w, ys)) (AP3) rfl (show List.Perm (nin A5.ow p.Voters ys) ((nin A5.ow p.Voters ys) ++ []) from Q1) qz17 (L7 rfl D1 E3)
  intro h72
  have hwn : wins X p.Voters.length = true := Au1 (by rw [A4, hnrl] at h72; exact h72)
  rw [yesPw hmc (by rw [hX, hyv]; exact hwn), hX, hyv]
  refine R2 ?_
  refine f5 qz23 ?_
  refine R2 ?_
  refine A2 rfl (P7 2 rfl (A0 rfl) rfl qz1 rfl) ?_
  refine A2 rfl (J1 2 rfl D2 rfl N6 (A0 rfl) rfl rfl qz1) ?_
  refine T9 2 rfl rfl rfl (A0 rfl) ev_cb (AJ9 _) rfl N6 qz1 rfl ?_
  refine R10 ?_
  refine A6 (A0 rfl) ?_ ?_
  ·intro h81
   have k81 := of_decide_eq_true h81; try simp only [A4] at k81
   have hC9 : True := trivial
   rw [if_pos (show (p.Won.length : Int) < 60 by simp only [A4] at h81; simpa using h81)]
   refine AWP.le (C7 [0, 0, 0, 0, 0] rfl) ?_
   refine AWP.le (X6 4 (t := nin A5.ow p.Voters ys) ((n5 (ow := A5.ow) hp hyy).symm)) ?_
   refine AWP.le (C7 [1, 0, 0] rfl) ?_
   refine K1 _ [(0, false), (1, false), (2, false), (3, false), (4, false), (5, false), (6, false), (7, false), (8, false), (9, false), (10, true)] qz8 qz8 rfl (U0 3) ?_
   refine R10 ?_
   refine N1 rfl rfl rfl (I9 (by' := 16) 3 rfl C5 Tryz.type56 rfl rfl rfl rfl rfl rfl (A0 rfl) (A0 rfl) rfl o4) (fun a _ => qz2) ?_
   intro v92_1 _
   refine R3 ?_
   refine O5 3 rfl fun one_v92_1 => ?_
   refine M2 0 rfl rfl rfl (A0 rfl) (A0 rfl) (F4 one_v92_1) rfl Y6 rfl ?_
   refine R1 ?_
   exact j1 [0, 1, 1] 1 (nin A5.ow p.Voters ys) [] ((v, v92_1, ys)) (AP3) rfl (show List.Perm (nin A5.ow p.Voters ys) ((nin A5.ow p.Voters ys) ++ []) from Q1) qz17 (L7 rfl D1 E3)
  intro h81
  have k81 := of_decide_eq_false h81; try simp only [A4] at k81
  have hD9 : True := trivial
  rw [if_neg (show ¬ (p.Won.length : Int) < 60 by simp only [A4] at h81; simpa using h81)]
  refine AWP.le (C7 [0, 0, 0, 0, 0] rfl) ?_
  refine AWP.le (X6 4 (t := nin A5.ow p.Voters ys) ((n5 (ow := A5.ow) hp hyy).symm)) ?_
  refine R1 ?_
  exact j1 [1, 1, 1] 1 (nin A5.ow p.Voters ys) [] ((v, w, ys)) (AP3) rfl (show List.Perm (nin A5.ow p.Voters ys) ((nin A5.ow p.Voters ys) ++ []) from Q1) qz17 (L7 rfl D1 E3)
 | false =>
  refine E1 Tryz.func76 rfl Tryz.ntmps76 rfl ?_
  refine R3 ?_
  intro b4
  refine R9 ?_
  refine B8 rfl rfl (L3 2 rfl B0 B4 (A0 rfl) rfl (A0 rfl) qz6 qz6) ?_
  refine R6 ?_
  refine B8 rfl rfl (P7 2 rfl (A0 rfl) rfl qz1 rfl) ?_
  refine B8 rfl rfl (J1 2 rfl D2 rfl D0 (A0 rfl) rfl rfl qz1) ?_
  refine B8 rfl rfl (K0 2 rfl (A0 rfl) rfl K5 qz1 rfl) ?_
  refine R4 ?_
  refine N9 rfl (V6 rfl rfl rfl) (fun hc => P7 2 rfl (B9 rfl hc) rfl qz1 rfl) ?_
  refine N9 rfl (V6 rfl rfl rfl) (fun hc => J1 2 rfl D2 rfl D0 (B9 rfl hc) rfl rfl qz1) ?_
  refine N9 rfl (V6 rfl rfl rfl) (fun hc => K0 2 rfl (B9 rfl hc) rfl K5 qz1 rfl) ?_
  refine R5 ?_
  refine A6 (A0 rfl) ?_ ?_
  ·intro h30
   have hA9 : True := trivial
   rw [yesPn (by unfold U4; rw [hX]; rw [← Bool.not_eq_true', Bool.not_and]; exact h30)]
   refine R1 ?_
   exact j1 [1, 1, 1] 1 (nin A5.ow p.Voters ys) [] ((v, w, ys)) (AP3) rfl (show List.Perm (nin A5.ow p.Voters ys) ((nin A5.ow p.Voters ys) ++ []) from Q1) qz13 (L7 rfl D1 E3)
  intro h30
  have hmc : U4 (C9 p l.To) l.To t = true := qz58
  refine R3 ?_
  refine AWP.le (X6 4 (t := ([Go.AV.Own.arr y 3 1 (X.Yes.map fun z => [AV.int z])]) ++ (nin A5.ow (p.Voters.eraseIdx l.To.toNat) (ys.eraseIdx l.To.toNat))) (n5 (ow := A5.ow) hp hyy)) ?_
  refine R2 ?_
  refine B8 rfl rfl (P7 2 rfl (A0 rfl) rfl qz1 rfl) ?_
  refine B8 rfl rfl (J1 2 rfl D2 rfl I6 (A0 rfl) rfl rfl qz1) ?_
  refine B8 rfl rfl (K0 2 rfl (A0 rfl) rfl S6 qz1 rfl) ?_
  refine R2 ?_
  refine B8 rfl rfl (V7 rfl Tryz.call101 rfl (AI5 X.Yes l.From hsr hyl) (AX0 (C1 (F9 _ _) (C1 (M4 _) G7))) (F6 (Ar8 4 (A0 rfl) rfl) (F6 (evb (A0 rfl)) N3))) ?_
  refine R11 ?_
  refine A6 (A0 rfl) ?_ ?_
  ·intro h42
   refine K1 _ [(0, false), (1, false), (2, false), (3, false), (4, false), (5, false), (6, false), (7, false), (8, true), (9, true)] qz8 qz8 rfl (U0 4) ?_
   refine R2 ?_
   refine M5 rfl rfl rfl (fun ext => P7 2 rfl (A0 rfl) rfl qz1 rfl) ?_
   refine M5 rfl rfl rfl (fun ext => J1 2 rfl D2 rfl I6 (A0 rfl) rfl rfl qz1) ?_
   refine M5 rfl rfl rfl (fun ext => K0 2 rfl (A0 rfl) rfl S6 qz1 rfl) ?_
   refine R3 ?_
   refine N1 rfl rfl rfl (AK4 5 <| u6 rfl B5 D0 Tryz.zeroValue3 rfl rfl rfl rfl (B7 (A0 rfl) (M9 _ _) I0) rfl rfl) (fun a _ => qz2) ?_
   intro v51 _
   refine N1 rfl rfl rfl (AK4 4 (E6 [4, 4] rfl Tryz.call102 rfl (Ai0 _ _ X.Yes l.From (posI X.Yes l.From) (posI_le _ _) qz6) (A1 (A0 rfl) (A1 (A0 rfl) (A1 (A0 rfl) A3))) rfl)) (fun a _ => qz2) ?_
   intro x52 ok52
   rw [← put_at hh]
   refine R1 ?_
   refine A2 rfl (P7 2 rfl (A0 rfl) rfl qz1 rfl) ?_
   refine A2 rfl (J1 2 rfl D2 rfl I6 (A0 rfl) rfl rfl qz1) ?_
   refine O5 4 rfl fun one_x52 => ?_
   refine T9 2 rfl rfl rfl (A0 rfl) (A0 rfl) (F4 one_x52) rfl I6 qz1 rfl ?_
   refine R3 ?_
   refine f5 qz23 ?_
   refine R2 ?_
   refine B8 rfl rfl (P7 2 rfl (A0 rfl) rfl qz1 rfl) ?_
   refine B8 rfl rfl (J1 2 rfl D2 rfl I6 (A0 rfl) rfl rfl qz1) ?_
   refine B8 rfl rfl (K0 2 rfl (A0 rfl) rfl S6 qz1 rfl) ?_
   refine R1 ?_
   refine B8 rfl rfl (u2 rfl D4 (A0 rfl) (by rw [A4]; have h9 := AT4 X.Yes l.From; omega)) ?_
   refine R8 ?_
   refine N9 rfl (V6 rfl rfl rfl) (fun hc => P7 2 rfl (B9 rfl hc) rfl qz1 rfl) ?_
   refine N9 rfl (V6 rfl rfl rfl) (fun hc => J1 2 rfl D2 rfl N6 (B9 rfl hc) rfl rfl qz1) ?_
   refine N9 rfl (V6 rfl rfl rfl) (fun hc => K0 2 rfl (B9 rfl hc) rfl X1 qz1 rfl) ?_
   refine R2 ?_
   refine A6 (A0 rfl) ?_ ?_
   ·intro h72
    have hB9 : True := trivial
    have hwn : wins (P9 X l.From) p.Voters.length = false := Au0 (by rw [A4, List.length_set, hnrl] at h72; exact h72)
    rw [yesPs hmc (by rw [hX]; exact hwn), hX]
    refine AWP.le (C7 [0, 0, 0, 0, 0] rfl) ?_
    refine AWP.le (X6 4 (t := nin A5.ow (p.Voters.set l.To.toNat (P9 X l.From)) (ys.set l.To.toNat x52)) (AO0 (ow := A5.ow) (p' := P9 X l.From) (x' := x52) hnl qz6)) ?_
    refine R1 ?_
    exact j1 [1, 1, 1] 1 (nin A5.ow (p.Voters.set l.To.toNat (P9 X l.From)) (ys.set l.To.toNat x52)) [] ((v, w, ys.set l.To.toNat x52)) (AP3) rfl (show List.Perm (nin A5.ow (p.Voters.set l.To.toNat (P9 X l.From)) (ys.set l.To.toNat x52)) ((nin A5.ow (p.Voters.set l.To.toNat (P9 X l.From)) (ys.set l.To.toNat x52)) ++ []) from Q1) qz13 (L7 rfl D1 E3)
   intro h72
   have hwn : wins (P9 X l.From) p.Voters.length = true := Au1 (by rw [A4, List.length_set, hnrl] at h72; exact h72)
   rw [yesPw hmc (by rw [hX]; exact hwn), hX]
   refine R2 ?_
   refine f5 qz23 ?_
   refine R2 ?_
   refine A2 rfl (P7 2 rfl (A0 rfl) rfl qz1 rfl) ?_
   refine A2 rfl (J1 2 rfl D2 rfl N6 (A0 rfl) rfl rfl qz1) ?_
   refine T9 2 rfl rfl rfl (A0 rfl) ev_cb (AJ9 _) rfl N6 qz1 rfl ?_
   refine R10 ?_
   refine A6 (A0 rfl) ?_ ?_
   ·intro h81
    have k81 := of_decide_eq_true h81; try simp only [A4] at k81
    have hC9 : True := trivial
    rw [if_pos (show (p.Won.length : Int) < 60 by simp only [A4] at h81; simpa using h81)]
    refine AWP.le (C7 [0, 0, 0, 0, 0] rfl) ?_
    refine AWP.le (X6 4 (t := nin A5.ow (p.Voters.set l.To.toNat (P9 X l.From)) (ys.set l.To.toNat x52)) (AO0 (ow := A5.ow) (p' := P9 X l.From) (x' := x52) hnl qz6)) ?_
    refine AWP.le (C7 [1, 0, 0] rfl) ?_
    refine K1 _ [(0, false), (1, false), (2, false), (3, false), (4, false), (5, false), (6, false), (7, false), (8, false), (9, false), (10, true)] qz8 qz8 rfl (U0 3) ?_
    refine R10 ?_
    refine N1 rfl rfl rfl (I9 (by' := 16) 3 rfl C5 Tryz.type56 rfl rfl rfl rfl rfl rfl (A0 rfl) (A0 rfl) rfl o4) (fun a _ => qz2) ?_
    intro v92_1 _
    refine R3 ?_
    refine O5 3 rfl fun one_v92_1 => ?_
    refine M2 0 rfl rfl rfl (A0 rfl) (A0 rfl) (F4 one_v92_1) rfl Y6 rfl ?_
    refine R1 ?_
    exact j1 [0, 1, 1] 1 (nin A5.ow (p.Voters.set l.To.toNat (P9 X l.From)) (ys.set l.To.toNat x52)) [] ((v, v92_1, ys.set l.To.toNat x52)) (AP3) rfl (show List.Perm (nin A5.ow (p.Voters.set l.To.toNat (P9 X l.From)) (ys.set l.To.toNat x52)) ((nin A5.ow (p.Voters.set l.To.toNat (P9 X l.From)) (ys.set l.To.toNat x52)) ++ []) from Q1) qz13 (L7 rfl D1 E3)
   intro h81
   have k81 := of_decide_eq_false h81; try simp only [A4] at k81
   have hD9 : True := trivial
   rw [if_neg (show ¬ (p.Won.length : Int) < 60 by simp only [A4] at h81; simpa using h81)]
   refine AWP.le (C7 [0, 0, 0, 0, 0] rfl) ?_
   refine AWP.le (X6 4 (t := nin A5.ow (p.Voters.set l.To.toNat (P9 X l.From)) (ys.set l.To.toNat x52)) (AO0 (ow := A5.ow) (p' := P9 X l.From) (x' := x52) hnl qz6)) ?_
   refine R1 ?_
   exact j1 [1, 1, 1] 1 (nin A5.ow (p.Voters.set l.To.toNat (P9 X l.From)) (ys.set l.To.toNat x52)) [] ((v, w, ys.set l.To.toNat x52)) (AP3) rfl (show List.Perm (nin A5.ow (p.Voters.set l.To.toNat (P9 X l.From)) (ys.set l.To.toNat x52)) ((nin A5.ow (p.Voters.set l.To.toNat (P9 X l.From)) (ys.set l.To.toNat x52)) ++ []) from Q1) qz13 (L7 rfl D1 E3)
  intro h42
  rw [hh] at h42; cases h42
end Go.Proofs.YtkibefcceekmnaaGreatDoor
namespace Go.M
open Go.AV
def hasValK (k : Int) : Bool := k == 2 || k == 7
def hasByK (k : Int) : Bool := k == 4 || k == 5
structure GoodO (o : TOp) : Prop where
  kind : 1 ≤ o.Kind ∧ o.Kind ≤ 7
  key : (32 : UInt8) ∉ o.Key ∧ (59 : UInt8) ∉ o.Key
  val : (32 : UInt8) ∉ o.Val ∧ (59 : UInt8) ∉ o.Val
  noval : hasValK o.Kind = false → o.Val = []
  noby : hasByK o.Kind = false → o.By = 0
  by' : -9999 ≤ o.By ∧ o.By ≤ 9999
theorem An8 {d : UInt8} : ∀ (s : Str) (m n : Nat), L4 m (s ++ [d]) = (n : Int) → ∃ v : Nat, L4 m s = (v : Int) ∧ (48 ≤ d.toNat ∧ d.toNat ≤ 57) ∧ n = 10 * v + (d.toNat - 48)
  | [], m, n, h => by
    simp only [List.nil_append, L4] at h
    split at h
    · rename_i hd
      refine ⟨m, rfl, ?_, by omega⟩
      unfold AE0 at hd; simp at hd; omega
    · exfalso; omega
  | b :: s, m, n, h => by
    show ∃ v : Nat, (if AE0 b = true then L4 (10 * m + (b.toNat - 48)) s else -1) = (v : Int) ∧ _
    have h2 : (if AE0 b = true then L4 (10 * m + (b.toNat - 48)) (s ++ [d]) else -1) = (n : Int) := h
    split at h2
    · rename_i hb
      rw [if_pos hb]
      exact An8 s _ n h2
    · exfalso; omega
theorem rd_ge : ∀ (s : Str) (m n : Nat), L4 m s = (n : Int) → m ≤ n
  | [], m, n, h => by simp only [L4] at h; omega
  | b :: s, m, n, h => by
    simp only [L4] at h
    split at h
    · have := rd_ge s _ n h; omega
    · exfalso; omega
theorem u8_dig {d : UInt8} (h : 48 ≤ d.toNat ∧ d.toNat ≤ 57) : UInt8.ofNat (48 + (d.toNat - 48)) = d := by
  apply UInt8.toNat_inj.1
  simp; omega
theorem dec_of : ∀ (k : Nat) (s : Str) (n : Nat), s.length = k + 1 → L4 0 s = (n : Int) → (s.head? ≠ some 48 ∨ k = 0) → decD n = s
  | 0, s, n, hl, h, _ => by
    match s, hl with
    | [d], _ =>
      obtain ⟨v, h1, h2, h3⟩ := An8 [] 0 n h
      simp only [L4] at h1
      have hv : v = 0 := by omega
      subst hv
      rw [X0 qz6, h3, show 48 + (10 * 0 + (d.toNat - 48)) = 48 + (d.toNat - 48) by omega, u8_dig h2]
  | k + 1, s, n, hl, h, hh => by
    have hne : s ≠ [] := by rintro rfl; simp at hl
    obtain ⟨t, d, rfl⟩ : ∃ t d, s = t ++ [d] := ⟨s.dropLast, s.getLast hne, (List.dropLast_concat_getLast hne).symm⟩
    have htl : t.length = k + 1 := by simpa using hl
    obtain ⟨v, h1, h2, h3⟩ := An8 t 0 n h
    match t, htl with
    | b :: t', _ =>
      have hb : b ≠ 48 := by
        rcases hh with hh | hh
        · intro e; subst e; simp at hh
        · omega
      have ih := dec_of k (b :: t') v (by assumption) h1 (.inl (by simpa using hb))
      have hv : 1 ≤ v := by
        simp only [L4] at h1
        split at h1
        · rename_i hd
          have h9 := rd_ge t' _ v h1
          have h8 : b.toNat ≠ 48 := fun e => hb (UInt8.toNat_inj.1 e)
          unfold AE0 at hd; simp at hd
          omega
        · exfalso; omega
      rw [m3 qz6, show n / 10 = v by omega, show n % 10 = d.toNat - 48 by omega, u8_dig h2, ih]
theorem l1R_back {s : Str} (h : 0 ≤ l1R s) : s = decD (l1R s).toNat := by
  unfold l1R at h ⊢
  by_cases hb : AL3 s = true
  · rw [if_pos hb] at h; omega
  · rw [if_neg hb] at h ⊢
    obtain ⟨n, hn⟩ : ∃ n : Nat, L4 0 s = (n : Int) := ⟨(L4 0 s).toNat, by omega⟩
    rw [hn]
    have hc : within s.length 1 6 = true ∧ ((s.head?.map fun b => b == 48).getD false && decide ((1 : Int) < (s.length : Int))) = false := by
      unfold AL3 at hb
      simp only [Bool.or_eq_true, not_or, Bool.not_eq_true', Bool.not_eq_false] at hb
      exact ⟨hb.1, by simpa using hb.2⟩
    have hl : 1 ≤ s.length := by have := hc.1; unfold within at this; simp at this; omega
    refine (dec_of (s.length - 1) s n qz6 hn ?_).symm
    cases s with
    | nil => simp at hl
    | cons b r =>
      by_cases hz : r.length = 0
      · exact .inr (by simpa using hz)
      · left
        have h2 := hc.2
        simp only [List.head?_cons, Option.map_some, Option.getD_some, Bool.and_eq_false_iff, decide_eq_false_iff_not] at h2
        rcases h2 with h2 | h2
        · simpa using h2
        · exfalso; simp at h2; omega
theorem Aw7 {s : Str} {n lo hi : Int} (h : readI s lo hi = (n, true)) : s = l4 n ∧ within n lo hi = true := by
  unfold readI at h
  split at h
  · cases h
  · rename_i hc
    injection h with h _
    simp only [Bool.or_eq_true, not_or, Bool.not_eq_true', Bool.not_eq_false, bne_iff_ne, ne_eq, Decidable.not_not] at hc
    subst h
    exact ⟨hc.2.symm, hc.1.2⟩
theorem Aw8 (s : Str) (lo hi : Int) : (readI s lo hi).2 = false → readI s lo hi = (0, false) := fun h => by
  unfold readI at h ⊢
  split
  · rfl
  · rename_i hc; rw [if_neg hc] at h; cases h
def rdN (s : Str) : Option Int := if within (l1R s) 1 200 = true then some (l1R s) else none
theorem AG4 : Ae8 rdN := fun s t h => by
  unfold rdN at h
  split at h
  · rename_i hw; injection h with h; subst h; exact K4.1 hw
  · cases h
theorem An9 (s : Str) : (readI s 1 200 = (0, false) ∧ rdN s = none) ∨ ∃ t, readI s 1 200 = (t, true) ∧ rdN s = some t ∧ 1 ≤ t ∧ t ≤ 200 := by
  cases hw : within (l1R s) 1 200 with
  | true =>
    have hb := K4.1 hw
    have e := l1R_back (s := s) qz6
    refine .inr ⟨l1R s, ?_, by unfold rdN; rw [if_pos hw], hb⟩
    have h9 := BB2 (n := (l1R s).toNat) (lo := 1) (hi := 200) qz6 (by rw [show (((l1R s).toNat : Nat) : Int) = l1R s by omega]; exact hw)
    rw [← e] at h9
    rw [h9, show (((l1R s).toNat : Nat) : Int) = l1R s by omega]
  | false =>
    refine .inl ⟨Aw8 s 1 200 ?_, by unfold rdN; rw [if_neg (by rw [hw]; exact Bool.false_ne_true)]⟩
    cases h : (readI s 1 200).2 with
    | false => rfl
    | true =>
      exfalso
      obtain ⟨h1, h2⟩ := Aw7 (s := s) (n := (readI s 1 200).1) (lo := 1) (hi := 200) (Prod.ext rfl h)
      have h3 := K4.1 h2
      have h4 : l1R s = (readI s 1 200).1 := by
        have h5 := AG1 ((readI s 1 200).1).toNat
        rw [show ((((readI s 1 200).1).toNat : Nat) : Int) = (readI s 1 200).1 by omega, ← h1] at h5
        have h6 := congrArg l1R h5
        rw [l1R_dec qz6] at h6
        rw [h6]; omega
      rw [h4, h2] at hw; cases hw
theorem BB9 {ty : Int → Str} {p : TPoll} {l : A7} (h : (!(readI (l.Body.drop 1) 1 200).2 || !(C9 p l.To).Up) = true) : d5 rdN ty p l = p := by
  unfold d5
  rcases An9 (l.Body.drop 1) with ⟨h1, h2⟩ | ⟨t, h1, h2, _⟩
  · rw [h2]
  · rw [h2]
    rw [h1] at h
    dsimp only
    rw [if_neg (by intro k; rw [k] at h; cases h)]
theorem hear_go {ty : Int → Str} {p : TPoll} {l : A7} {c : UInt8} (hc : l.Body[0]? = some c) (h : (!(readI (l.Body.drop 1) 1 200).2 || !(C9 p l.To).Up) = false) : (1 ≤ (readI (l.Body.drop 1) 1 200).1 ∧ (readI (l.Body.drop 1) 1 200).1 ≤ 200) ∧ d5 rdN ty p l = if (c.toNat : Int) = 97 then e9 ty p l (readI (l.Body.drop 1) 1 200).1 else if (c.toNat : Int) = 121 then yesP p l (readI (l.Body.drop 1) 1 200).1 else p := by
  rw [Bool.or_eq_false_iff, Bool.not_eq_false', Bool.not_eq_false'] at h
  rcases An9 (l.Body.drop 1) with ⟨h1, h2⟩ | ⟨t, h1, h2, h3⟩
  · rw [h1] at h; cases h.1
  · rw [h1]
    refine ⟨h3, ?_⟩
    have hb : l.Body.head? = some c := by rw [List.head?_eq_getElem?]; exact hc
    have e1 : ∀ k : UInt8, (l.Body.head? = some k) = ((c.toNat : Int) = (k.toNat : Int)) := fun k => by
      rw [hb]
      exact propext ⟨fun e => by injection e with e; rw [e], fun e => by congr 1; exact UInt8.toNat_inj.1 qz6⟩
    unfold d5
    rw [h2]
    dsimp only
    rw [if_pos h.2]
    simp only [e1]
    rfl
abbrev O2 (p : TPoll) (l : A7) : TPoll := d5 rdN tyI p l
abbrev V0 (p : TPoll) : TPoll × Bool := tickP rdN tyI p
abbrev doI (p : TPoll) (a : F7) : TPoll × Bool := doP rdN taI tyI p a
abbrev H9 (p : TPoll) (a : F7) : TPoll := AI9 rdN taI tyI p a
theorem Ao0 {p : TPoll} (h1 : goodPoll p = true) (h2 : (tickN p.Net).2 = true) : V0 p = ((S0 (tickN p.Net).1).foldl O2 (netP p (U9 (tickN p.Net).1)), true) := by
  have h3 : (p.Net.Now != 100000) = true := by
    unfold tickN at h2
    split at h2
    · rename_i h; rw [Bool.and_eq_true] at h; exact h.2
    · cases h2
  exact if_pos (by rw [h1, h3]; rfl)
theorem Ao1 {p : TPoll} (h2 : (tickN p.Net).2 = false) : V0 p = (X2, false) := by
  refine if_neg fun k => ?_
  rw [Bool.and_eq_true] at k
  have g := (U1.1 k.1).net
  unfold tickN at h2
  rw [if_pos (by rw [g, k.2]; rfl)] at h2
  cases h2
theorem Ah2 {ls : List A7} {q r : TPoll} {i : Nat} {l : A7} (h : ls[i]? = some l) (hf : r = (ls.drop i).foldl O2 q) : r = (ls.drop (i + 1)).foldl O2 (O2 q l) := by
  rw [hf, drop_some h]; rfl
end Go.M
namespace Go.Proofs.YtkibefcceekmnaaGreatDoor
open Go Go.AV Go.M
attribute [local irreducible] OpW OpA OpS AWP D3 P2 F0 OpE RetOk K2 M3 Le Ev I4 Q8 Int.tmod Int.tdiv IntKind.wrap
theorem Ao2 (p : TPoll) (hs : PSz p) : F0 Tryz.prog 47 [AV.wt readW (AV.agg p.cs)] [] (fun x : Value × Value × List Value => x.2.2.length = (V0 p).1.Voters.length) (fun x => .arr x.1 40 5 (nrows A5.ocs (V0 p).1.Voters x.2.2) :: .arr x.2.1 56 2 ((V0 p).1.Won.map G3.cs) :: nin A5.ow (V0 p).1.Voters x.2.2) (fun x => AV.tup [AV.agg (pollC (V0 p).1 x.1 x.2.1), AV.bool (V0 p).2]) := by
 have hns : p.Net.size ≤ 1048576 := Nat.le_trans hs.net D1
 refine E1 Tryz.func47 rfl Tryz.ntmps47 rfl ?_
 refine AWP.le (AK5 (t := 0) rfl) ?_
 refine R3 ?_
 intro b1
 refine R1 ?_
 intro b2
 refine R6 ?_
 refine A2 rfl (B3 rfl Tryz.call7 rfl (p9 p hs) (A1 (A0 rfl) A3)) ?_
 refine R2 ?_
 refine A6 (A0 rfl) ?_ ?_
 ·intro h15
  rw [show V0 p = (X2, false) from if_neg (by intro k; rw [Bool.and_eq_true] at k; rw [k.1] at h15; cases h15)]
  refine R7 ?_
  refine J3 0 2 1 rfl rfl M7 ?_
  refine J3 0 4 4 rfl rfl M7 ?_
  refine K8 40 5 ?_
  refine K8 56 2 ?_
  exact F1 [1, 0] ((Value.slice none 0 0, Value.slice none 0 0, [])) ((by first | exact hinv.2.2.1 | rfl)) rfl B6 (L7 rfl D1 (B2 (C3 (ys := _) 2 rfl rfl C8 C0 rfl) (B2 (A8 rfl B6) E3)))
 intro h15
 have hg : goodPoll p = true := (by simpa using h15)
 have hgp := U1.1 hg
 refine R4 ?_
 refine A2 rfl (O4 _ 1 rfl (A0 rfl) rfl C2 B1 rfl rfl) ?_
 refine A2 rfl (B3 rfl Tryz.call72 rfl (Am4 p.Net hns) (A1 (A0 rfl) A3)) ?_
 refine R4 ?_
 intro b4
 refine R9 ?_
 refine A6 (A0 rfl) ?_ ?_
 ·intro h24
  rw [Ao1 (by simpa using h24)]
  refine R7 ?_
  refine J3 1 2 1 rfl rfl M7 ?_
  refine J3 1 4 4 rfl rfl M7 ?_
  refine K8 40 5 ?_
  refine K8 56 2 ?_
  exact F1 [1, 0] ((Value.slice none 0 0, Value.slice none 0 0, [])) ((by first | exact hinv.2.2.1 | rfl)) rfl B6 (L7 rfl D1 (B2 (C3 (ys := _) 3 rfl rfl C8 C0 rfl) (B2 (A8 rfl B6) E3)))
 intro h24
 have htk : (tickN p.Net).2 = true := (by simpa using h24)
 rw [Ao0 hg htk]
 obtain ⟨_, hg1, hh1⟩ := AB9 htk
 obtain ⟨n1, hn1⟩ : ∃ n1, (tickN p.Net).1 = n1 := ⟨_, rfl⟩
 rw [hn1] at hg1 hh1 ⊢
 have hns1 := d9 hg1
 have hgl := AQ6 hg1
 have hg60 : (S0 n1).length ≤ 60 := (by have h9 := (J2 hg1).1; unfold S0; rw [G8]; omega)
 have hgP : GP (netP p (U9 n1)) := g9 hgp hgl (show n1.Homes = p.Net.Homes from hh1)
 refine R4 ?_
 refine AQ2 [] 4 2 ([]) ([]) (fun zz => nin A5.ow p.Voters zz.2.2) rfl rfl rfl rfl Tryz.call24 rfl rfl (show List.Perm ([]) (([]) ++ ([])) from List.Perm.refl _) (AR2 p hs) (A1 (A0 rfl) A3) (fun a => AX1) ?_
 intro x27 ok27
 have hys27 : x27.2.2.length = p.Voters.length := ok27
 refine R1 ?_
 intro b6
 refine R5 ?_
 refine A2 rfl (B3 rfl Tryz.call73 rfl (Ad7 n1 qz6) (A1 (A0 rfl) A3)) ?_
 refine R4 ?_
 intro b7
 refine R7 ?_
 refine S1 1 rfl rfl rfl (A0 rfl) (A0 rfl) (F2 _) rfl B1 rfl ?_
 refine R9 ?_
 refine AWP.le (C7 [1, 1, 1, 4, 3, 2, 1, 0] rfl) ?_
 refine Ap1 [(2, _), (3, _), (6, _), (35, _), (36, _)] [] (fun (i : Nat) (q : TPoll) (v : Value) (w : Value) (ys : List Value) => i ≤ (S0 n1).length ∧ (GP q ∧ q.Net.Homes = n1.Homes) ∧ ys.length = q.Voters.length ∧ (S0 n1).foldl O2 (netP p (U9 n1)) = ((S0 n1).drop i).foldl O2 q) (fun (i : Nat) (q : TPoll) (v : Value) (w : Value) (ys : List Value) => [.box b6 31 (pollC q v w), .arr v 40 5 (nrows A5.ocs q.Voters ys), .arr w 56 2 (q.Won.map G3.cs), .tab readW, .box b1 31 p.cs, .box b2 31 (List.map zeroA (Value.agg #[Value.slice none 0 0, Value.int IntKind.i64 0, Value.slice none 0 0, Value.int IntKind.i64 0, Value.slice none 0 0, Value.slice none 0 0]).cells.toList), .box b4 28 n1.cs, .box b7 28 (U9 n1).cs] ++ (nin A5.ow q.Voters ys)) (fun (i : Nat) (q : TPoll) (v : Value) (w : Value) (ys : List Value) => [(37, AV.int i)]) (fun (i : Nat) (q : TPoll) (v : Value) (w : Value) (ys : List Value) => (S0 n1).length - i) (0) ((netP p (U9 n1))) (x27.1) (x27.2.1) (x27.2.2) ?_ (N7 (by (rw [List.append_nil]; rfl)) ⟨rfl, rfl, rfl, rfl, rfl, rfl, trivial⟩) ?_
 ·exact ⟨Nat.zero_le _, ⟨hgP, rfl⟩, hys27, rfl⟩
 intro i q v w ys hinv
 refine f5 (List.append_nil _) ?_
 refine R5 ?_
 refine A6 (A0 rfl) ?_ ?_
 ·intro h38
  have k38 := of_decide_eq_true h38; try simp only [A4] at k38
  have hlt : i < (S0 n1).length := qz64
  obtain ⟨l, hx⟩ := F8 hlt
  have hl1 := Ad1 hg1 (D9 hx)
  have hlq : isLetN q.Net l = true := (by rw [f6 hinv.2.1.2]; exact hl1)
  have hlr := Z4 hl1
  obtain ⟨c0, hc0⟩ := F8 (show 0 < l.Body.length by omega)
  have hnt : H2 q.Net l.To = true := (by unfold isLetN at hlq; simp only [Bool.and_eq_true] at hlq; exact hlq.1.1.1.2)
  obtain ⟨hn0, hnl, hp, hnn⟩ := n6 hinv.2.1.1 hnt
  obtain ⟨y, hyy⟩ := F8 (show l.To.toNat < ys.length by omega)
  have hrow := AH7 (ocs := A5.ocs) hp hyy
  have hrl := (List.getElem?_eq_some_iff.1 hrow).1
  have hfn := Ah2 hx hinv.2.2.2
  refine R5 ?_
  refine A2 rfl (H3 rfl A9 E2 (A0 rfl) (A0 rfl) hx qz3) ?_
  refine R2 ?_
  intro b10
  refine R6 ?_
  refine A2 rfl (Aj9 rfl I2 (A0 rfl) D4 qz6 qz6) ?_
  refine A2 rfl (y8 4 rfl rfl Tryz.call74 rfl (An4 (l.Body.drop 1) 1 200 (by rw [List.length_drop]; omega)) (A1 (A0 rfl) (A1 D4 (A1 D4 A3))) AJ1) ?_
  refine R16 ?_
  refine J6 rfl (fun hc => L3 2 rfl B0 B4 (B9 rfl hc) rfl (B9 rfl hc) qz6 qz6) ?_
  refine J6 rfl (fun hc => J1 2 rfl D2 rfl N6 (B9 rfl hc) rfl rfl qz1) ?_
  refine J6 rfl (fun hc => K0 2 rfl (B9 rfl hc) rfl X1 qz1 rfl) ?_
  refine R4 ?_
  refine A6 (A0 rfl) ?_ ?_
  ·intro h48
   have hfin : (S0 n1).foldl O2 (netP p (U9 n1)) = ((S0 n1).drop (i + 1)).foldl O2 q := (by rw [hfn, show O2 q l = q from BB9 h48])
   refine R5 ?_
   refine AC6 i q v w ys (i + 1) (q) (v) (w) (ys) ?_ ?_ (Le.trans (C7 [0, 0, 0, 0, 0, 0, 0, 0, 0] rfl) (E8 1 (Eq.trans B6 (List.append_nil _).symm) ⟨rfl, rfl, rfl, rfl, rfl, rfl, trivial⟩))
   ·exact ⟨by omega, hinv.2.1, hinv.2.2.1, hfin⟩
   omega
  intro h48
  have hgo := hear_go (ty := tyI) hc0 h48
  have hup : (C9 q l.To).Up = true := (by rw [Bool.or_eq_false_iff, Bool.not_eq_false', Bool.not_eq_false'] at h48; exact h48.2)
  refine R4 ?_
  refine A2 rfl (AE7 rfl I2 (A0 rfl) D4 qz6 hc0) ?_
  refine R3 ?_
  refine A6 (A0 rfl) ?_ ?_
  ·intro h61
   have k61 := G2 h61; try simp only [A4] at k61
   have hfin : (S0 n1).foldl O2 (netP p (U9 n1)) = ((S0 n1).drop (i + 1)).foldl O2 (e9 tyI q l (readI (l.Body.drop 1) 1 200).1) := (by rw [hfn, show O2 q l = _ from hgo.2, if_pos (by simpa using h61)])
   refine R3 ?_
   refine AQ2 [1, 1, 1, 1] 5 4 (nin A5.ow q.Voters ys) ([]) (fun zz => nin A5.ow (e9 tyI q l (readI (l.Body.drop 1) 1 200).1).Voters zz) rfl rfl rfl rfl Tryz.call75 rfl rfl (show List.Perm (nin A5.ow q.Voters ys) ((nin A5.ow q.Voters ys) ++ ([])) from Q1) (Aq5 b6 q v w ys l (readI (l.Body.drop 1) 1 200).1 hinv.2.1.1 hlq hinv.2.2.1 hgo.1) (A1 (A0 rfl) (A1 (A0 rfl) (A1 (A0 rfl) A3))) (fun a => AX1) ?_
   intro x68 ok68
   refine R5 ?_
   refine AC6 i q v w ys (i + 1) (e9 tyI q l (readI (l.Body.drop 1) 1 200).1) (v) (w) (x68) ?_ ?_ (Le.trans (C7 [4, 0, 0, 0, 0, 0, 0, 0, 0] rfl) (E8 1 (Eq.trans B6 (List.append_nil _).symm) ⟨rfl, rfl, rfl, rfl, rfl, rfl, trivial⟩))
   ·exact ⟨by omega, ⟨(AZ8 hinv.2.1.1 hlq hgo.1).1, (AZ8 (ty := tyI) hinv.2.1.1 hlq hgo.1).2.2.trans hinv.2.1.2⟩, ok68.trans (AZ8 (ty := tyI) hinv.2.1.1 hlq hgo.1).2.1.1, hfin⟩
   omega
  intro h61
  have k61 := G1 h61; try simp only [A4] at k61
  refine R4 ?_
  refine A2 rfl (AE7 rfl I2 (A0 rfl) D4 qz6 hc0) ?_
  refine R3 ?_
  refine A6 (A0 rfl) ?_ ?_
  ·intro h69
   have k69 := G2 h69; try simp only [A4] at k69
   have hfin : (S0 n1).foldl O2 (netP p (U9 n1)) = ((S0 n1).drop (i + 1)).foldl O2 (yesP q l (readI (l.Body.drop 1) 1 200).1) := (by rw [hfn, show O2 q l = _ from hgo.2, if_neg (by simpa using h61), if_pos (by simpa using h69)])
   refine R3 ?_
   refine AQ2 [1, 1, 1] 6 3 (nin A5.ow q.Voters ys) ([]) (fun zz => nin A5.ow (yesP q l (readI (l.Body.drop 1) 1 200).1).Voters zz.2.2) rfl rfl rfl rfl Tryz.call76 rfl rfl (show List.Perm (nin A5.ow q.Voters ys) ((nin A5.ow q.Voters ys) ++ ([])) from Q1) (Ai7 b6 q v w ys l (readI (l.Body.drop 1) 1 200).1 hinv.2.1.1 hlq hinv.2.2.1) (A1 (A0 rfl) (A1 (A0 rfl) (A1 (A0 rfl) A3))) (fun a => AX1) ?_
   intro x76 ok76
   refine R5 ?_
   refine AC6 i q v w ys (i + 1) (yesP q l (readI (l.Body.drop 1) 1 200).1) (x76.1) (x76.2.1) (x76.2.2) ?_ ?_ (Le.trans (C7 [3, 0, 0, 0, 0, 0, 0, 0, 0] rfl) (E8 1 (Eq.trans B6 (List.append_nil _).symm) ⟨rfl, rfl, rfl, rfl, rfl, rfl, trivial⟩))
   ·exact ⟨by omega, ⟨(AZ9 hinv.2.1.1 hlq hgo.1 hup).1, (AZ9 hinv.2.1.1 hlq hgo.1 hup).2.2.trans hinv.2.1.2⟩, ok76.trans (AZ9 hinv.2.1.1 hlq hgo.1 hup).2.1.1, hfin⟩
   omega
  intro h69
  have k69 := G1 h69; try simp only [A4] at k69
  have hfin : (S0 n1).foldl O2 (netP p (U9 n1)) = ((S0 n1).drop (i + 1)).foldl O2 q := (by rw [hfn, show O2 q l = _ from hgo.2, if_neg (by simpa using h61), if_neg (by simpa using h69)])
  refine R5 ?_
  refine AC6 i q v w ys (i + 1) (q) (v) (w) (ys) ?_ ?_ (Le.trans (C7 [0, 0, 0, 0, 0, 0, 0, 0, 0] rfl) (E8 1 (Eq.trans B6 (List.append_nil _).symm) ⟨rfl, rfl, rfl, rfl, rfl, rfl, trivial⟩))
  ·exact ⟨by omega, hinv.2.1, hinv.2.2.1, hfin⟩
  omega
 intro h38
 have k38 := of_decide_eq_false h38; try simp only [A4] at k38
 have hie : (S0 n1).length ≤ i := qz64
 have hfin : (S0 n1).foldl O2 (netP p (U9 n1)) = q := (by rw [hinv.2.2.2, List.drop_eq_nil_of_le hie]; rfl)
 rw [hfin]
 refine R8 ?_
 exact j1 [1, 1] 6 (nin A5.ow q.Voters ys) [] ((v, w, ys)) ((by first | exact hinv.2.2.1 | rfl)) rfl (show List.Perm (nin A5.ow q.Voters ys) ((nin A5.ow q.Voters ys) ++ []) from Q1) B6 (L7 rfl D1 (B2 (C3 (ys := _) 5 rfl rfl C8 C0 rfl) (B2 (A8 rfl B6) E3)))
theorem Aw9 {own : List Go.AV.Own} {q : TPoll} {v w : Value} {ys : List Value} (hl : ys.length = q.Voters.length) (h1 : Go.AV.Own.arr v 40 5 (nrows A5.ocs q.Voters ys) ∈ own) (h2 : Go.AV.Own.arr w 56 2 (q.Won.map G3.cs) ∈ own) (h3 : ∀ o ∈ nin A5.ow q.Voters ys, o ∈ own) : c8 own (AV.agg (pollC q v w)) (AV.agg q.cs) :=
  W6 (D8 (I5 h1 (Ag5 (fun x y h => A5.lcM x y h) hl h3)) (D8 G5 (D8 G5 (D8 G5 (D8 G5 (D8 (I5 h2 F5) T1))))))
theorem Ai8 (p : TPoll) (hs : PSz p) : D3 Tryz.prog 47 [AV.wt readW (AV.agg p.cs)] (AV.tup [AV.agg (V0 p).1.cs, AV.bool (V0 p).2]) :=
  L8 (Ao2 p hs) fun x hx => AK2 (D8 (Aw9 hx List.mem_cons_self (List.mem_cons_of_mem _ List.mem_cons_self) fun o ho => List.mem_cons_of_mem _ (List.mem_cons_of_mem _ ho)) X5)
theorem Aq6 (p : TPoll) (a : F7) (hs : PSz p) : D3 Tryz.prog 25 [AV.wt readW (AV.agg p.cs), AV.agg a.cs] (AV.tup [AV.agg (doI p a).1.cs, AV.bool (doI p a).2]) := by
 have hns : p.Net.size ≤ 1048576 := Nat.le_trans hs.net D1
 refine C6 Tryz.func25 rfl Tryz.ntmps25 rfl ?_
 refine AWP.le (AK5 (t := 0) rfl) ?_
 refine R3 ?_
 intro b2
 refine R1 ?_
 intro b3
 refine R1 ?_
 intro b4
 refine R6 ?_
 intro b6
 refine R5 ?_
 refine AWP.le (AZ4 0 1 1 rfl rfl AB8) ?_
 refine AWP.le (AZ4 0 3 4 rfl rfl AB8) ?_
 refine R10 ?_
 refine A6 (A0 rfl) ?_ ?_
 ·intro h12
  have k12 := G2 h12; try simp only [A4] at k12
  rw [show doI p a = P8 taI p a.Who by unfold doI doP; rw [if_pos k12]]
  refine R5 ?_
  refine A2 rfl (y8 4 rfl rfl Tryz.call45 rfl (An7 p a.Who hs) (A1 (A0 rfl) (A1 (A0 rfl) A3)) AJ1) ?_
  refine R6 ?_
  exact O3 rfl D1 (B2 (C3 (ys := _) 1 rfl rfl C8 C0 rfl) (B2 (A8 rfl B6) E3))
 intro h12
 have k12 := G1 h12; try simp only [A4] at k12
 refine R5 ?_
 refine A6 (A0 rfl) ?_ ?_
 ·intro h20
  have k20 := G2 h20; try simp only [A4] at k20
  rw [show doI p a = S9 p a.Who by unfold doI doP; rw [if_neg k12, if_pos k20]]
  refine R5 ?_
  refine A2 rfl (B3 rfl Tryz.call46 rfl (Ae2 p a.Who hs) (A1 (A0 rfl) (A1 (A0 rfl) A3))) ?_
  refine R6 ?_
  exact O3 rfl D1 (B2 (C3 (ys := _) 1 rfl rfl C8 C0 rfl) (B2 (A8 rfl B6) E3))
 intro h20
 have k20 := G1 h20; try simp only [A4] at k20
 refine R5 ?_
 refine A6 (A0 rfl) ?_ ?_
 ·intro h28
  have k28 := G2 h28; try simp only [A4] at k28
  rw [show doI p a = V0 p by unfold doI doP; rw [if_neg k12, if_neg k20, if_pos k28]]
  refine R3 ?_
  refine A2 rfl (y8 4 rfl rfl Tryz.call47 rfl (Ai8 p hs) (A1 (A0 rfl) A3) AJ1) ?_
  refine R6 ?_
  exact O3 rfl D1 (B2 (C3 (ys := _) 1 rfl rfl C8 C0 rfl) (B2 (A8 rfl B6) E3))
 intro h28
 have k28 := G1 h28; try simp only [A4] at k28
 refine R5 ?_
 refine A6 (A0 rfl) ?_ ?_
 ·intro h34
  have k34 := G2 h34; try simp only [A4] at k34
  rw [show doI p a = W0 p (Z0 p.Net a.Who) by unfold doI doP; rw [if_neg k12, if_neg k20, if_neg k28, if_pos k34]]
  refine R2 ?_
  refine A2 rfl (O4 _ 3 rfl (A0 rfl) rfl C2 B1 rfl rfl) ?_
  refine R2 ?_
  refine A2 rfl (B3 rfl Tryz.call48 rfl (Am3 p.Net a.Who hns) (A1 (A0 rfl) (A1 (A0 rfl) A3))) ?_
  refine R9 ?_
  refine A2 rfl (B3 rfl Tryz.call24 rfl (j5 p hs) (A1 (A0 rfl) A3)) ?_
  refine R1 ?_
  intro b8
  refine R6 ?_
  refine S1 0 rfl rfl rfl (A0 rfl) (A0 rfl) (F2 _) rfl B1 rfl ?_
  refine R9 ?_
  exact O3 rfl D1 (B2 (C3 (ys := _) 2 rfl rfl C8 C0 rfl) (B2 (A8 rfl B6) E3))
 intro h34
 have k34 := G1 h34; try simp only [A4] at k34
 refine R5 ?_
 refine A6 (A0 rfl) ?_ ?_
 ·intro h44
  have k44 := G2 h44; try simp only [A4] at k44
  rw [show doI p a = W0 p (S8 p.Net a.Who) by unfold doI doP; rw [if_neg k12, if_neg k20, if_neg k28, if_neg k34, if_pos k44]]
  refine R2 ?_
  refine A2 rfl (O4 _ 3 rfl (A0 rfl) rfl C2 B1 rfl rfl) ?_
  refine R2 ?_
  refine A2 rfl (B3 rfl Tryz.call49 rfl (Ad6 p.Net a.Who hns) (A1 (A0 rfl) (A1 (A0 rfl) A3))) ?_
  refine R9 ?_
  refine A2 rfl (B3 rfl Tryz.call24 rfl (j5 p hs) (A1 (A0 rfl) A3)) ?_
  refine R1 ?_
  intro b8
  refine R6 ?_
  refine S1 0 rfl rfl rfl (A0 rfl) (A0 rfl) (F2 _) rfl B1 rfl ?_
  refine R9 ?_
  exact O3 rfl D1 (B2 (C3 (ys := _) 2 rfl rfl C8 C0 rfl) (B2 (A8 rfl B6) E3))
 intro h44
 have k44 := G1 h44; try simp only [A4] at k44
 refine R5 ?_
 refine A6 (A0 rfl) ?_ ?_
 ·intro h54
  have k54 := G2 h54; try simp only [A4] at k54
  rw [show doI p a = W0 p (V5 p.Net a.Who a.By) by unfold doI doP; rw [if_neg k12, if_neg k20, if_neg k28, if_neg k34, if_neg k44, if_pos k54]]
  refine R2 ?_
  refine A2 rfl (O4 _ 3 rfl (A0 rfl) rfl C2 B1 rfl rfl) ?_
  refine R4 ?_
  refine A2 rfl (B3 rfl Tryz.call50 rfl (Ai2 p.Net a.Who a.By hns) (A1 (A0 rfl) (A1 (A0 rfl) (A1 (A0 rfl) A3)))) ?_
  refine R9 ?_
  refine A2 rfl (B3 rfl Tryz.call24 rfl (j5 p hs) (A1 (A0 rfl) A3)) ?_
  refine R1 ?_
  intro b8
  refine R6 ?_
  refine S1 0 rfl rfl rfl (A0 rfl) (A0 rfl) (F2 _) rfl B1 rfl ?_
  refine R9 ?_
  exact O3 rfl D1 (B2 (C3 (ys := _) 2 rfl rfl C8 C0 rfl) (B2 (A8 rfl B6) E3))
 intro h54
 have k54 := G1 h54; try simp only [A4] at k54
 rw [show doI p a = W0 p (T3, false) by unfold doI doP; rw [if_neg k12, if_neg k20, if_neg k28, if_neg k34, if_neg k44, if_neg k54]]
 refine R4 ?_
 refine A2 rfl (B3 rfl Tryz.call24 rfl (j5 p hs) (A1 (A0 rfl) A3)) ?_
 refine R1 ?_
 intro b8
 refine R6 ?_
 refine S1 0 rfl rfl rfl (A0 rfl) (A0 rfl) (F2 _) rfl B1 rfl ?_
 refine R9 ?_
 exact O3 rfl D1 (B2 (C3 (ys := _) 2 rfl rfl C8 C0 rfl) (B2 (A8 rfl B6) E3))
theorem Ai9 (p : TPoll) (acts : List F7) (g : GP p) (hl : acts.length ≤ 200) : D3 Tryz.prog 8 [AV.wt readW (AV.agg p.cs), AV.list 3 (acts.map F7.cs)] (AV.tup [AV.agg (acts.foldl H9 p).cs, AV.bool true]) := by
 have hs := V8 g
 refine C6 Tryz.func8 rfl Tryz.ntmps8 rfl ?_
 refine AWP.le (AK5 (t := 0) rfl) ?_
 refine R3 ?_
 intro b2
 refine R1 ?_
 intro b4
 refine R6 ?_
 refine A2 rfl (B3 rfl Tryz.call7 rfl (p9 p hs) (A1 (A0 rfl) A3)) ?_
 refine R7 ?_
 refine A6 (A0 rfl) ?_ ?_
 ·intro h18
  exfalso; rw [U1.2 g, A4] at h18; simp at h18; omega
 intro h18
 refine R4 ?_
 refine A2 rfl (B3 rfl Tryz.call24 rfl (j5 p hs) (A1 (A0 rfl) A3)) ?_
 refine R1 ?_
 intro b6
 refine R10 ?_
 refine AWP.le (C7 [0] rfl) ?_
 refine S3 [(4, _), (5, _), (6, _), (22, _), (23, _)] _ (fun (i : Nat) (q : TPoll) => i ≤ acts.length ∧ GP q ∧ acts.foldl H9 p = (acts.drop i).foldl H9 q) (fun (i : Nat) (q : TPoll) => [.box b6 31 q.cs]) (fun (i : Nat) (q : TPoll) => [(24, AV.int i)]) (fun (i : Nat) (q : TPoll) => acts.length - i) (0) (p) ?_ (N7 B6 ⟨rfl, rfl, rfl, rfl, rfl, rfl, trivial⟩) ?_
 ·exact ⟨Nat.zero_le _, g, rfl⟩
 intro i q hinv
 refine R5 ?_
 refine A6 (A0 rfl) ?_ ?_
 ·intro h25
  have k25 := of_decide_eq_true h25; try simp only [A4] at k25
  have hlt : i < acts.length := (by simp only [A4] at h25; simpa using h25)
  obtain ⟨a, hx⟩ := F8 hlt
  have hnx : acts.foldl H9 p = (acts.drop (i + 1)).foldl H9 (H9 q a) := (by rw [hinv.2.2, drop_some hx]; rfl)
  refine R5 ?_
  refine A2 rfl (H3 rfl N5 f9 (A0 rfl) (A0 rfl) hx qz3) ?_
  refine R2 ?_
  intro b8
  refine R6 ?_
  refine A2 rfl (y8 4 rfl rfl Tryz.call25 rfl (Aq6 q a (V8 hinv.2.1)) (A1 (A0 rfl) (A1 (A0 rfl) A3)) AJ1) ?_
  refine R4 ?_
  intro b9
  refine R7 ?_
  refine A6 (A0 rfl) ?_ ?_
  ·intro h34
   have hst : H9 q a = (doI q a).1 := if_pos h34
   have hfin : acts.foldl H9 p = (acts.drop (i + 1)).foldl H9 (doI q a).1 := (by rw [hnx, hst])
   refine R8 ?_
   refine Q5 i q (i + 1) ((doI q a).1) ?_ ?_ (Le.trans (C7 [0, 0, 0] rfl) (E8 2 B6 ⟨rfl, rfl, rfl, rfl, rfl, rfl, trivial⟩))
   ·exact ⟨by omega, by have h9 := (AF6 (ta := taI) (ty := tyI) AG4 hinv.2.1 a).1; rw [show AI9 rdN taI tyI q a = (doI q a).1 from hst] at h9; exact h9, hfin⟩
   omega
  intro h34
  have hst : H9 q a = q := if_neg (by rw [h34]; exact Bool.false_ne_true)
  have hfin : acts.foldl H9 p = (acts.drop (i + 1)).foldl H9 q := (by rw [hnx, hst])
  refine R5 ?_
  refine Q5 i q (i + 1) (q) ?_ ?_ (Le.trans (C7 [0, 0, 0] rfl) (E8 2 B6 ⟨rfl, rfl, rfl, rfl, rfl, rfl, trivial⟩))
  ·exact ⟨by omega, hinv.2.1, hfin⟩
  omega
 intro h25
 have k25 := of_decide_eq_false h25; try simp only [A4] at k25
 have hfi : acts.foldl H9 p = q := (by rw [hinv.2.2, List.drop_eq_nil_of_le (by simp only [A4] at h25; simpa using h25)]; rfl)
 rw [hfi]
 refine R8 ?_
 exact O3 rfl D1 (B2 (C3 (ys := _) 1 rfl rfl C8 C0 rfl) (B2 (A8 rfl B6) E3))
end Go.Proofs.YtkibefcceekmnaaGreatDoor
namespace Go.M
open Go.AV
theorem bs_of {l : List Int} {n : Int} {i : Nat} (hs : adj ltI l = true) (hi : i ≤ l.length) (h : ∀ x ∈ l.take i, decide (x < n) = true) (hb : ∀ x, l[i]? = some x → ¬ x < n) : BsI l n i i := by
  refine ⟨⟨Nat.le_refl _, hi⟩, h, fun k x hk hx => ?_⟩
  by_cases e : k = i
  · subst e; have := hb x hx; omega
  · have hkl := (List.getElem?_eq_some_iff.1 hx).1
    obtain ⟨y, hy⟩ := F8 (show i < l.length by omega)
    have h1 := hb y hy
    have h2 := AK7 AH9 hs (show i < k by omega) hy hx
    unfold ltI at h2
    have := of_decide_eq_true h2
    omega
theorem BC0 {l : List Int} {n : Int} {i : Nat} (hs : adj ltI l = true) (h : BsI l n i i) (hc : l[i]? = some n) : f0 l n = l :=
  At9 (by rw [Ae3 hs h (Nat.le_refl _), hc]; simp)
theorem put_new {l : List Int} {n : Int} {i : Nat} (hs : adj ltI l = true) (h : BsI l n i i) (hc : l[i]? ≠ some n) : f0 l n = l.take i ++ n :: l.drop i := by
  rw [put_at (by rw [Ae3 hs h (Nat.le_refl _)]; exact decide_eq_false hc), At8 h (Nat.le_refl _)]
theorem taI_dec {t : Int} (h : 0 ≤ t) : taI t = 97 :: decD t.toNat := by
  unfold taI
  have := AG1 t.toNat
  rw [show ((t.toNat : Nat) : Int) = t by omega] at this
  rw [this]
theorem tyI_dec {t : Int} (h : 0 ≤ t) : tyI t = 121 :: decD t.toNat := by
  unfold tyI
  have := AG1 t.toNat
  rw [show ((t.toNat : Nat) : Int) = t by omega] at this
  rw [this]
theorem hasV_gp {p : TPoll} {v : Int} : hasV p v = (goodPoll p && within v 0 ((p.Voters.length : Int) - 1)) := by
  unfold hasV
  cases h : goodPoll p with
  | false => rfl
  | true =>
    have := (U1.1 h).len
    unfold H2
    rw [this]
end Go.M
namespace Go.Proofs.YtkibefcceekmnaaGreatDoor
open Go Go.AV Go.M
attribute [local irreducible] OpW OpA OpS AWP D3 P2 F0 OpE RetOk K2 M3 Le Ev I4 Q8 Int.tmod Int.tdiv IntKind.wrap
theorem BC1 (l : List Int) (n : Int) (hs : adj ltI l = true) (hl : l.length ≤ 1000000) : D3 Tryz.prog 119 [ints l, AV.int n] (ints (f0 l n)) := by
 refine C6 Tryz.func119 rfl Tryz.ntmps119 rfl ?_
 refine R2 ?_
 refine A2 rfl (P1 rfl (Ac4 (sz := 1))) ?_
 refine R7 ?_
 refine J0 [(0, _), (1, _), (4, _)] _ (fun (i : Nat) => i ≤ l.length ∧ ∀ x ∈ l.take i, decide (x < n) = true) (fun (i : Nat) => []) (fun (i : Nat) => [(5, AV.int i)]) (fun (i : Nat) => l.length - i) (0) ?_ (K6 ⟨rfl, rfl, rfl, rfl, trivial⟩) ?_
 ·exact ⟨Nat.zero_le _, fun x hx => by cases hx⟩
 intro i hinv
 obtain ⟨x, hx⟩ := As4 l i
 have hx0 : i < l.length → l[i]? = some x := hx
 refine R10 ?_
 refine U5 rfl (fun hc => H3 rfl B5 D0 (B9 rfl hc) (B9 rfl hc) (hx AJ3) AJ3) ?_
 refine R5 ?_
 refine A6 (A0 rfl) ?_ ?_
 ·intro h18
  have hb : i < l.length ∧ x < n := by simpa using h18
  refine R7 ?_
  refine AP4 ?_
  refine L0 i (i + 1) ?_ ?_ (K6 ⟨rfl, rfl, rfl, rfl, trivial⟩)
  ·exact ⟨by omega, Ad8 hinv.2 (hx0 hb.1) (decide_eq_true hb.2)⟩
  omega
 intro h18
 have hb : i < l.length → ¬ x < n := fun h => by simpa [h] using h18
 have hbs := bs_of hs hinv.1 hinv.2 (fun z hz => by (have hzl := (List.getElem?_eq_some_iff.1 hz).1; rw [hx0 hzl] at hz; injection hz with hz; subst hz; exact hb hzl))
 refine R11 ?_
 refine U5 rfl (fun hc => H3 rfl B5 D0 (B9 rfl hc) (B9 rfl hc) (hx AJ3) AJ3) ?_
 refine R5 ?_
 refine A6 (A0 rfl) ?_ ?_
 ·intro h32
  have hc : i < l.length ∧ x = n := by simpa using h32
  have he := BC0 hs hbs (by rw [hx0 hc.1, hc.2])
  rw [he]
  refine R6 ?_
  exact H5 rfl (A8 rfl qz63)
 intro h32
 have hc : i < l.length → x ≠ n := fun h => by simpa [h] using h32
 have he := put_new hs hbs (fun hz => by (have hzl := (List.getElem?_eq_some_iff.1 hz).1; rw [hx0 hzl] at hz; injection hz with hz; exact hc hzl hz))
 rw [he]
 refine R3 ?_
 refine P4 rfl rfl rfl rfl B5 D0 ?_
 intro v34
 refine R2 ?_
 refine A2 rfl (r8 rfl B5 D0 (A0 rfl) (A0 rfl) qz3 qz3) ?_
 refine N0 (by' := 8) 0 rfl rfl rfl rfl B5 Tryz.type3 rfl rfl rfl rfl rfl rfl (A0 rfl) (A0 rfl) rfl (by simp only [A4, G8, Z3]; omega) ?_
 intro v38_1
 refine R7 ?_
 refine N0 (by' := 8) 0 rfl rfl rfl rfl B5 Tryz.type3 rfl rfl rfl rfl rfl rfl (A0 rfl) (A0 rfl) rfl qz79 ?_
 intro v42_2
 refine R7 ?_
 refine A2 rfl (r9 rfl B5 D0 (A0 rfl) (A0 rfl) qz3 qz3) ?_
 refine N0 (by' := 8) 0 rfl rfl rfl rfl B5 Tryz.type3 rfl rfl rfl rfl rfl rfl (A0 rfl) (A0 rfl) rfl qz79 ?_
 intro v47_3
 refine R3 ?_
 refine ret_seal 0 4 rfl rfl ?_
 exact H5 rfl (A8 rfl qz63)
theorem BC2 (p : TPoll) (hs : PSz p) : F0 Tryz.prog 26 [AV.agg p.cs] [] (fun _ : Value × Value => True) (fun x => [.arr x.1 40 5 (p.Voters.map A5.cs), .arr x.2 56 2 (p.Won.map G3.cs)]) (fun x => AV.agg (pollC p x.1 x.2)) := by
 have hns : p.Net.size ≤ 1048576 := Nat.le_trans hs.net D1
 obtain ⟨q1, q2, q3⟩ := N8 hns
 have hv := hs.voters.1
 have hw := hs.won
 refine E1 Tryz.func26 rfl Tryz.ntmps26 rfl ?_
 refine R3 ?_
 intro b1
 refine R1 ?_
 intro b2
 refine R2 ?_
 refine Ak2 [(1, _), (2, _)] ⟨rfl, rfl, trivial⟩ (fun (b3 : Nat) (v0 : Value) (w : Value) => [.box b3 31 (pollC p v0 w), .box b1 31 p.cs, .box b2 31 (List.map zeroA (Value.agg #[Value.slice none 0 0, Value.int IntKind.i64 0, Value.slice none 0 0, Value.int IntKind.i64 0, Value.slice none 0 0, Value.slice none 0 0]).cells.toList), .arr v0 40 5 [], .arr w 56 2 (p.Won.map G3.cs)]) (fun (b3 : Nat) (v0 : Value) (w : Value) => [(3, AV.ptr b3 0)]) ?_ ?_
 ·skip
  refine AF1 _ 13 (.pure 0 (.pure 1 (.pure 2 (.pure 3 (.pure 4 (.pure 5 (.pure 8 (.pure 9 (.e3 6 (.e2 7 (.e2 10 (.pure 11 (.e1 12 .nil)) 12 (.e1 10 (.pure 11 .nil))) 12 (.e1 7 (.e1 10 (.pure 11 .nil)))) 7 (.e3 6 (.e2 10 (.pure 11 (.e1 12 .nil)) 12 (.e1 10 (.pure 11 .nil))) 10 (.e2 6 (.pure 11 (.e1 12 .nil)) 12 (.e1 6 (.pure 11 .nil))) 12 (.e2 6 (.e1 10 (.pure 11 .nil)) 10 (.e1 6 (.pure 11 .nil)))) 12 (.e2 6 (.e1 7 (.e1 10 (.pure 11 .nil))) 7 (.e2 6 (.e1 10 (.pure 11 .nil)) 10 (.e1 6 (.pure 11 .nil))))))))))))) qz8 qz8 rfl Q0 ?_
  refine R1 ?_
  refine I1 rfl rfl rfl (fun ext => O4 _ 1 rfl (A0 rfl) rfl C2 B1 rfl rfl) ?_
  refine R3 ?_
  refine I1 rfl rfl rfl (fun ext => B3 rfl Tryz.call51 rfl ((show D3 Tryz.prog 51 [AV.agg p.Net.cs, AV.list 4 (p.Net.Under.map A7.cs)] (AV.agg p.Net.cs) from c6 p.Net p.Net.Under qz6 qz6)) (A1 (A0 rfl) (A1 (A0 rfl) A3))) ?_
  refine R2 ?_
  refine AZ2 ?_ ?_ ?_
  ·refine C4 rfl rfl rfl (G6 2 (fun _ => rfl) (I8 rfl B0 B4)) (fun a _ => qz2) ?_
   intro v12 hone_v12
   have one_v12 := hone_v12.2
   refine a8 ?_ ?_
   ·refine C4 rfl rfl rfl (I8 rfl C5 J5) (fun a _ => qz2) ?_
    intro v13 _
    refine a8 ?_ ?_
    ·refine C4 rfl rfl rfl (G6 3 (fun _ => rfl) (I9 (by' := 16) 3 rfl C5 Tryz.type56 rfl rfl rfl rfl rfl rfl (A0 rfl) (A0 rfl) rfl qz3)) (fun a _ => qz2) ?_
     intro v16_1 hone_v16_1
     have one_v16_1 := hone_v16_1.2
     refine I1 rfl rfl rfl (fun ext => I3 (places := #[(0, 1), (1, 4), (5, 1)]) rfl E4 Tryz.zeroValue31 (fun w => by kernel_rfl) rfl (B7 (A0 rfl) (F2 _) (B7 (A0 rfl) (F4 one_v12) (B7 (A0 rfl) (F4 one_v16_1) I0))) rfl) ?_
     refine R1 ?_
     refine C4 rfl rfl rfl (G4 rfl Tryz.zeroValue31 rfl) (fun a _ => qz2) ?_
     intro b3 _
     refine R3 ?_
     exact ⟨b3, v12, v16_1, Le.trans (C7 [4, 1, 0, 0, 0] rfl) (E8 0 B6 ⟨rfl, rfl, rfl, trivial⟩)⟩
    refine C4 rfl rfl rfl (G4 rfl Tryz.zeroValue31 rfl) (fun a _ => qz2) ?_
    intro b3 _
    refine R1 ?_
    refine C4 rfl rfl rfl (G6 3 (fun _ => rfl) (I9 (by' := 16) 3 rfl C5 Tryz.type56 rfl rfl rfl rfl rfl rfl (A0 rfl) (A0 rfl) rfl qz3)) (fun a _ => qz2) ?_
    intro v16_2 hone_v16_2
    have one_v16_2 := hone_v16_2.2
    refine I1 rfl rfl rfl (fun ext => I3 (places := #[(0, 1), (1, 4), (5, 1)]) rfl E4 Tryz.zeroValue31 (fun w => by kernel_rfl) rfl (B7 (A0 rfl) (F2 _) (B7 (A0 rfl) (F4 one_v12) (B7 (A0 rfl) (F4 one_v16_2) I0))) rfl) ?_
    refine R3 ?_
    exact ⟨b3, v12, v16_2, Le.trans (C7 [4, 1, 0, 0, 0] rfl) (E8 0 B6 ⟨rfl, rfl, rfl, trivial⟩)⟩
   refine C4 rfl rfl rfl (G4 rfl Tryz.zeroValue31 rfl) (fun a _ => qz2) ?_
   intro b3 _
   refine R1 ?_
   refine C4 rfl rfl rfl (I8 rfl C5 J5) (fun a _ => qz2) ?_
   intro v13 _
   refine R1 ?_
   refine C4 rfl rfl rfl (G6 4 (fun _ => rfl) (I9 (by' := 16) 4 rfl C5 Tryz.type56 rfl rfl rfl rfl rfl rfl (A0 rfl) (A0 rfl) rfl qz3)) (fun a _ => qz2) ?_
   intro v16_3 hone_v16_3
   have one_v16_3 := hone_v16_3.2
   refine I1 rfl rfl rfl (fun ext => I3 (places := #[(0, 1), (1, 4), (5, 1)]) rfl E4 Tryz.zeroValue31 (fun w => by kernel_rfl) rfl (B7 (A0 rfl) (F2 _) (B7 (A0 rfl) (F4 one_v12) (B7 (A0 rfl) (F4 one_v16_3) I0))) rfl) ?_
   refine R3 ?_
   exact ⟨b3, v12, v16_3, Le.trans (C7 [3, 1, 0, 0, 0] rfl) (E8 0 B6 ⟨rfl, rfl, rfl, trivial⟩)⟩
  ·refine C4 rfl rfl rfl (I8 rfl C5 J5) (fun a _ => qz2) ?_
   intro v13 _
   refine AZ2 ?_ ?_ ?_
   ·refine C4 rfl rfl rfl (G6 3 (fun _ => rfl) (I8 rfl B0 B4)) (fun a _ => qz2) ?_
    intro v12 hone_v12
    have one_v12 := hone_v12.2
    refine a8 ?_ ?_
    ·refine C4 rfl rfl rfl (G6 2 (fun _ => rfl) (I9 (by' := 16) 2 rfl C5 Tryz.type56 rfl rfl rfl rfl rfl rfl (A0 rfl) (A0 rfl) rfl qz3)) (fun a _ => qz2) ?_
     intro v16_4 hone_v16_4
     have one_v16_4 := hone_v16_4.2
     refine I1 rfl rfl rfl (fun ext => I3 (places := #[(0, 1), (1, 4), (5, 1)]) rfl E4 Tryz.zeroValue31 (fun w => by kernel_rfl) rfl (B7 (A0 rfl) (F2 _) (B7 (A0 rfl) (F4 one_v12) (B7 (A0 rfl) (F4 one_v16_4) I0))) rfl) ?_
     refine R1 ?_
     refine C4 rfl rfl rfl (G4 rfl Tryz.zeroValue31 rfl) (fun a _ => qz2) ?_
     intro b3 _
     refine R3 ?_
     exact ⟨b3, v12, v16_4, Le.trans (C7 [4, 1, 0, 1, 0] rfl) (E8 0 B6 ⟨rfl, rfl, rfl, trivial⟩)⟩
    refine C4 rfl rfl rfl (G4 rfl Tryz.zeroValue31 rfl) (fun a _ => qz2) ?_
    intro b3 _
    refine R1 ?_
    refine C4 rfl rfl rfl (G6 2 (fun _ => rfl) (I9 (by' := 16) 2 rfl C5 Tryz.type56 rfl rfl rfl rfl rfl rfl (A0 rfl) (A0 rfl) rfl qz3)) (fun a _ => qz2) ?_
    intro v16_5 hone_v16_5
    have one_v16_5 := hone_v16_5.2
    refine I1 rfl rfl rfl (fun ext => I3 (places := #[(0, 1), (1, 4), (5, 1)]) rfl E4 Tryz.zeroValue31 (fun w => by kernel_rfl) rfl (B7 (A0 rfl) (F2 _) (B7 (A0 rfl) (F4 one_v12) (B7 (A0 rfl) (F4 one_v16_5) I0))) rfl) ?_
    refine R3 ?_
    exact ⟨b3, v12, v16_5, Le.trans (C7 [4, 1, 0, 1, 0] rfl) (E8 0 B6 ⟨rfl, rfl, rfl, trivial⟩)⟩
   ·refine C4 rfl rfl rfl (G6 2 (fun _ => rfl) (I9 (by' := 16) 2 rfl C5 Tryz.type56 rfl rfl rfl rfl rfl rfl (A0 rfl) (A0 rfl) rfl qz3)) (fun a _ => qz2) ?_
    intro v16_6 hone_v16_6
    have one_v16_6 := hone_v16_6.2
    refine a8 ?_ ?_
    ·refine C4 rfl rfl rfl (G6 3 (fun _ => rfl) (I8 rfl B0 B4)) (fun a _ => qz2) ?_
     intro v12 hone_v12
     have one_v12 := hone_v12.2
     refine I1 rfl rfl rfl (fun ext => I3 (places := #[(0, 1), (1, 4), (5, 1)]) rfl E4 Tryz.zeroValue31 (fun w => by kernel_rfl) rfl (B7 (A0 rfl) (F2 _) (B7 (A0 rfl) (F4 one_v12) (B7 (A0 rfl) (F4 one_v16_6) I0))) rfl) ?_
     refine R1 ?_
     refine C4 rfl rfl rfl (G4 rfl Tryz.zeroValue31 rfl) (fun a _ => qz2) ?_
     intro b3 _
     refine R3 ?_
     exact ⟨b3, v12, v16_6, Le.trans (C7 [4, 1, 0, 1, 0] rfl) (E8 0 B6 ⟨rfl, rfl, rfl, trivial⟩)⟩
    refine C4 rfl rfl rfl (G4 rfl Tryz.zeroValue31 rfl) (fun a _ => qz2) ?_
    intro b3 _
    refine R1 ?_
    refine C4 rfl rfl rfl (G6 4 (fun _ => rfl) (I8 rfl B0 B4)) (fun a _ => qz2) ?_
    intro v12 hone_v12
    have one_v12 := hone_v12.2
    refine I1 rfl rfl rfl (fun ext => I3 (places := #[(0, 1), (1, 4), (5, 1)]) rfl E4 Tryz.zeroValue31 (fun w => by kernel_rfl) rfl (B7 (A0 rfl) (F2 _) (B7 (A0 rfl) (F4 one_v12) (B7 (A0 rfl) (F4 one_v16_6) I0))) rfl) ?_
    refine R3 ?_
    exact ⟨b3, v12, v16_6, Le.trans (C7 [3, 1, 0, 1, 0] rfl) (E8 0 B6 ⟨rfl, rfl, rfl, trivial⟩)⟩
   refine C4 rfl rfl rfl (G4 rfl Tryz.zeroValue31 rfl) (fun a _ => qz2) ?_
   intro b3 _
   refine a8 ?_ ?_
   ·refine C4 rfl rfl rfl (G6 4 (fun _ => rfl) (I8 rfl B0 B4)) (fun a _ => qz2) ?_
    intro v12 hone_v12
    have one_v12 := hone_v12.2
    refine R1 ?_
    refine C4 rfl rfl rfl (G6 2 (fun _ => rfl) (I9 (by' := 16) 2 rfl C5 Tryz.type56 rfl rfl rfl rfl rfl rfl (A0 rfl) (A0 rfl) rfl qz3)) (fun a _ => qz2) ?_
    intro v16_7 hone_v16_7
    have one_v16_7 := hone_v16_7.2
    refine I1 rfl rfl rfl (fun ext => I3 (places := #[(0, 1), (1, 4), (5, 1)]) rfl E4 Tryz.zeroValue31 (fun w => by kernel_rfl) rfl (B7 (A0 rfl) (F2 _) (B7 (A0 rfl) (F4 one_v12) (B7 (A0 rfl) (F4 one_v16_7) I0))) rfl) ?_
    refine R3 ?_
    exact ⟨b3, v12, v16_7, Le.trans (C7 [3, 1, 0, 1, 0] rfl) (E8 0 B6 ⟨rfl, rfl, rfl, trivial⟩)⟩
   refine C4 rfl rfl rfl (G6 2 (fun _ => rfl) (I9 (by' := 16) 2 rfl C5 Tryz.type56 rfl rfl rfl rfl rfl rfl (A0 rfl) (A0 rfl) rfl qz3)) (fun a _ => qz2) ?_
   intro v16_8 hone_v16_8
   have one_v16_8 := hone_v16_8.2
   refine R1 ?_
   refine C4 rfl rfl rfl (G6 4 (fun _ => rfl) (I8 rfl B0 B4)) (fun a _ => qz2) ?_
   intro v12 hone_v12
   have one_v12 := hone_v12.2
   refine I1 rfl rfl rfl (fun ext => I3 (places := #[(0, 1), (1, 4), (5, 1)]) rfl E4 Tryz.zeroValue31 (fun w => by kernel_rfl) rfl (B7 (A0 rfl) (F2 _) (B7 (A0 rfl) (F4 one_v12) (B7 (A0 rfl) (F4 one_v16_8) I0))) rfl) ?_
   refine R3 ?_
   exact ⟨b3, v12, v16_8, Le.trans (C7 [3, 1, 0, 1, 0] rfl) (E8 0 B6 ⟨rfl, rfl, rfl, trivial⟩)⟩
  refine C4 rfl rfl rfl (G4 rfl Tryz.zeroValue31 rfl) (fun a _ => qz2) ?_
  intro b3 _
  refine a8 ?_ ?_
  ·refine C4 rfl rfl rfl (G6 3 (fun _ => rfl) (I8 rfl B0 B4)) (fun a _ => qz2) ?_
   intro v12 hone_v12
   have one_v12 := hone_v12.2
   refine R1 ?_
   refine C4 rfl rfl rfl (I8 rfl C5 J5) (fun a _ => qz2) ?_
   intro v13 _
   refine R1 ?_
   refine C4 rfl rfl rfl (G6 4 (fun _ => rfl) (I9 (by' := 16) 4 rfl C5 Tryz.type56 rfl rfl rfl rfl rfl rfl (A0 rfl) (A0 rfl) rfl qz3)) (fun a _ => qz2) ?_
   intro v16_9 hone_v16_9
   have one_v16_9 := hone_v16_9.2
   refine I1 rfl rfl rfl (fun ext => I3 (places := #[(0, 1), (1, 4), (5, 1)]) rfl E4 Tryz.zeroValue31 (fun w => by kernel_rfl) rfl (B7 (A0 rfl) (F2 _) (B7 (A0 rfl) (F4 one_v12) (B7 (A0 rfl) (F4 one_v16_9) I0))) rfl) ?_
   refine R3 ?_
   exact ⟨b3, v12, v16_9, Le.trans (C7 [2, 1, 0, 0, 0] rfl) (E8 0 B6 ⟨rfl, rfl, rfl, trivial⟩)⟩
  refine C4 rfl rfl rfl (I8 rfl C5 J5) (fun a _ => qz2) ?_
  intro v13 _
  refine a8 ?_ ?_
  ·refine C4 rfl rfl rfl (G6 4 (fun _ => rfl) (I8 rfl B0 B4)) (fun a _ => qz2) ?_
   intro v12 hone_v12
   have one_v12 := hone_v12.2
   refine R1 ?_
   refine C4 rfl rfl rfl (G6 3 (fun _ => rfl) (I9 (by' := 16) 3 rfl C5 Tryz.type56 rfl rfl rfl rfl rfl rfl (A0 rfl) (A0 rfl) rfl qz3)) (fun a _ => qz2) ?_
   intro v16_10 hone_v16_10
   have one_v16_10 := hone_v16_10.2
   refine I1 rfl rfl rfl (fun ext => I3 (places := #[(0, 1), (1, 4), (5, 1)]) rfl E4 Tryz.zeroValue31 (fun w => by kernel_rfl) rfl (B7 (A0 rfl) (F2 _) (B7 (A0 rfl) (F4 one_v12) (B7 (A0 rfl) (F4 one_v16_10) I0))) rfl) ?_
   refine R3 ?_
   exact ⟨b3, v12, v16_10, Le.trans (C7 [2, 1, 0, 1, 0] rfl) (E8 0 B6 ⟨rfl, rfl, rfl, trivial⟩)⟩
  refine C4 rfl rfl rfl (G6 3 (fun _ => rfl) (I9 (by' := 16) 3 rfl C5 Tryz.type56 rfl rfl rfl rfl rfl rfl (A0 rfl) (A0 rfl) rfl qz3)) (fun a _ => qz2) ?_
  intro v16_11 hone_v16_11
  have one_v16_11 := hone_v16_11.2
  refine R1 ?_
  refine C4 rfl rfl rfl (G6 4 (fun _ => rfl) (I8 rfl B0 B4)) (fun a _ => qz2) ?_
  intro v12 hone_v12
  have one_v12 := hone_v12.2
  refine I1 rfl rfl rfl (fun ext => I3 (places := #[(0, 1), (1, 4), (5, 1)]) rfl E4 Tryz.zeroValue31 (fun w => by kernel_rfl) rfl (B7 (A0 rfl) (F2 _) (B7 (A0 rfl) (F4 one_v12) (B7 (A0 rfl) (F4 one_v16_11) I0))) rfl) ?_
  refine R3 ?_
  exact ⟨b3, v12, v16_11, Le.trans (C7 [2, 1, 0, 1, 0] rfl) (E8 0 B6 ⟨rfl, rfl, rfl, trivial⟩)⟩
 intro b3 v0 w
 refine R6 ?_
 refine AWP.le (C7 [0, 2, 2] rfl) ?_
 refine S3 [(1, _), (2, _), (3, _)] _ (fun (i : Nat) (v : Value) => i ≤ p.Voters.length) (fun (i : Nat) (v : Value) => [.box b3 31 (pollC p v w), .arr v 40 5 ((p.Voters.take i).map A5.cs), .arr w 56 2 (p.Won.map G3.cs)]) (fun (i : Nat) (v : Value) => [(4, AV.int i)]) (fun (i : Nat) (v : Value) => p.Voters.length - i) (0) (v0) ?_ (N7 B6 ⟨rfl, rfl, rfl, rfl, trivial⟩) ?_
 ·exact Nat.zero_le _
 intro i v hinv
 refine R9 ?_
 refine A6 (A0 rfl) ?_ ?_
 ·intro h22
  have k22 := of_decide_eq_true h22; try simp only [A4] at k22
  have hlt : i < p.Voters.length := qz65
  obtain ⟨x, hx⟩ := F8 hlt
  have hxy := hs.voters.2 x (D9 hx)
  refine R8 ?_
  refine A2 rfl (H3 rfl B0 B4 (A0 rfl) (A0 rfl) hx qz3) ?_
  refine R2 ?_
  intro b5
  refine R6 ?_
  refine A2 rfl (B3 rfl Tryz.call52 rfl (p6 _ qz6) (A1 (A0 rfl) A3)) ?_
  refine R8 ?_
  refine N0 (by' := 56) 2 rfl rfl rfl rfl B0 Tryz.type40 rfl rfl rfl rfl rfl rfl (A0 rfl) (A0 rfl) rfl qz75 ?_
  intro v38_12
  refine R1 ?_
  refine O5 2 rfl fun one_v38_12 => ?_
  refine M2 1 rfl rfl rfl (A0 rfl) (A0 rfl) (F4 one_v38_12) rfl Tryz.sizeOf24 rfl ?_
  refine R6 ?_
  refine Q5 i v (i + 1) (v38_12) ?_ ?_ (Le.trans (C7 [0, 0, 0, 0] rfl) (E8 1 (by (rw [AH8 hx, List.map_append]; rfl)) ⟨rfl, rfl, rfl, rfl, trivial⟩))
  ·exact qz6
  omega
 intro h22
 have k22 := of_decide_eq_false h22; try simp only [A4] at k22
 have hge : p.Voters.length ≤ i := qz65
 rw [List.take_of_length_le hge]
 refine R7 ?_
 exact F1 [1, 1] (v, w) (trivial) rfl B6 (H4 rfl (C3 (ys := _) 4 rfl rfl C8 C0 rfl))
theorem Aa8 (p : TPoll) (v : Int) (hs : PSz p) : D3 Tryz.prog 82 [AV.agg p.cs, AV.int v] (AV.bool (hasV p v)) := by
  have hv := hs.voters.1
  refine C6 Tryz.func82 rfl Tryz.ntmps82 rfl ?_
  refine R3 ?_
  intro b2
  refine R5 ?_
  refine A2 rfl (B3 rfl Tryz.call16 rfl (AB2 p hs) (A1 (A0 rfl) A3)) ?_
  refine R5 ?_
  refine U5 rfl (fun hc => AE6 rfl (B9 rfl hc) D4 AE5) ?_
  refine U5 rfl (fun hc => B3 rfl Tryz.call35 rfl (O0 _ _ _) (A1 (B9 rfl hc) (A1 D4 (A1 (B9 rfl hc) A3)))) ?_
  refine R4 ?_
  exact H5 rfl (A8 rfl (by exact congrArg AV.bool (by rw [hasV_gp, A4])))
theorem AD4 (p : TPoll) (pv pw : Value) (hs : PSz p) : F0 Tryz.prog 26 [AV.agg (pollC p pv pw)] [.arr pv 40 5 (p.Voters.map A5.cs), .arr pw 56 2 (p.Won.map G3.cs)] (fun _ : Value × Value => True) (fun x => [.arr pv 40 5 (p.Voters.map A5.cs), .arr pw 56 2 (p.Won.map G3.cs), .arr x.1 40 5 (p.Voters.map A5.cs), .arr x.2 56 2 (p.Won.map G3.cs)]) (fun x => AV.agg (pollC p x.1 x.2)) := by
 have hns : p.Net.size ≤ 1048576 := Nat.le_trans hs.net D1
 obtain ⟨q1, q2, q3⟩ := N8 hns
 have hv := hs.voters.1
 have hw := hs.won
 refine E1 Tryz.func26 rfl Tryz.ntmps26 rfl ?_
 refine R3 ?_
 intro b1
 refine R1 ?_
 intro b2
 refine R2 ?_
 refine Ak2 [(1, _), (2, _)] ⟨rfl, rfl, trivial⟩ (fun (b3 : Nat) (v0 : Value) (w : Value) => [.box b3 31 (pollC p v0 w), .arr pv 40 5 (p.Voters.map A5.cs), .arr pw 56 2 (p.Won.map G3.cs), .box b1 31 (pollC p pv pw), .box b2 31 (List.map zeroA (Value.agg #[Value.slice none 0 0, Value.int IntKind.i64 0, Value.slice none 0 0, Value.int IntKind.i64 0, Value.slice none 0 0, Value.slice none 0 0]).cells.toList), .arr v0 40 5 [], .arr w 56 2 (p.Won.map G3.cs)]) (fun (b3 : Nat) (v0 : Value) (w : Value) => [(3, AV.ptr b3 0)]) ?_ ?_
 ·skip
  refine AF1 _ 13 (.pure 0 (.pure 1 (.pure 2 (.pure 3 (.pure 4 (.pure 5 (.pure 8 (.pure 9 (.e3 6 (.e2 7 (.e2 10 (.pure 11 (.e1 12 .nil)) 12 (.e1 10 (.pure 11 .nil))) 12 (.e1 7 (.e1 10 (.pure 11 .nil)))) 7 (.e3 6 (.e2 10 (.pure 11 (.e1 12 .nil)) 12 (.e1 10 (.pure 11 .nil))) 10 (.e2 6 (.pure 11 (.e1 12 .nil)) 12 (.e1 6 (.pure 11 .nil))) 12 (.e2 6 (.e1 10 (.pure 11 .nil)) 10 (.e1 6 (.pure 11 .nil)))) 12 (.e2 6 (.e1 7 (.e1 10 (.pure 11 .nil))) 7 (.e2 6 (.e1 10 (.pure 11 .nil)) 10 (.e1 6 (.pure 11 .nil))))))))))))) qz8 qz8 rfl Q0 ?_
  refine R1 ?_
  refine I1 rfl rfl rfl (fun ext => O4 _ 1 rfl (A0 rfl) rfl C2 B1 rfl rfl) ?_
  refine R3 ?_
  refine I1 rfl rfl rfl (fun ext => B3 rfl Tryz.call51 rfl ((show D3 Tryz.prog 51 [AV.agg p.Net.cs, AV.list 4 (p.Net.Under.map A7.cs)] (AV.agg p.Net.cs) from c6 p.Net p.Net.Under qz6 qz6)) (A1 (A0 rfl) (A1 (A0 rfl) A3))) ?_
  refine R2 ?_
  refine AZ2 ?_ ?_ ?_
  ·refine C4 rfl rfl rfl (G6 4 (fun _ => rfl) (I8 rfl B0 B4)) (fun a _ => qz2) ?_
   intro v12 hone_v12
   have one_v12 := hone_v12.2
   refine a8 ?_ ?_
   ·refine C4 rfl rfl rfl (I8 rfl C5 J5) (fun a _ => qz2) ?_
    intro v13 _
    refine a8 ?_ ?_
    ·refine C4 rfl rfl rfl (G6 5 (fun _ => rfl) (S4 (by' := 16) 5 rfl C5 Tryz.type56 rfl rfl rfl rfl rfl rfl (A0 rfl) (Y5 3 rfl (A0 rfl)) rfl qz3)) (fun a _ => qz2) ?_
     intro v16_1 hone_v16_1
     have one_v16_1 := hone_v16_1.2
     refine I1 rfl rfl rfl (fun ext => I3 (places := #[(0, 1), (1, 4), (5, 1)]) rfl E4 Tryz.zeroValue31 (fun w => by kernel_rfl) rfl (B7 (A0 rfl) (F2 _) (B7 (A0 rfl) (F4 one_v12) (B7 (A0 rfl) (F4 one_v16_1) I0))) rfl) ?_
     refine R1 ?_
     refine C4 rfl rfl rfl (G4 rfl Tryz.zeroValue31 rfl) (fun a _ => qz2) ?_
     intro b3 _
     refine R3 ?_
     exact ⟨b3, v12, v16_1, Le.trans (C7 [6, 2, 2, 1, 0, 0, 0] rfl) (E8 0 B6 ⟨rfl, rfl, rfl, trivial⟩)⟩
    refine C4 rfl rfl rfl (G4 rfl Tryz.zeroValue31 rfl) (fun a _ => qz2) ?_
    intro b3 _
    refine R1 ?_
    refine C4 rfl rfl rfl (G6 5 (fun _ => rfl) (S4 (by' := 16) 5 rfl C5 Tryz.type56 rfl rfl rfl rfl rfl rfl (A0 rfl) (Y5 3 rfl (A0 rfl)) rfl qz3)) (fun a _ => qz2) ?_
    intro v16_2 hone_v16_2
    have one_v16_2 := hone_v16_2.2
    refine I1 rfl rfl rfl (fun ext => I3 (places := #[(0, 1), (1, 4), (5, 1)]) rfl E4 Tryz.zeroValue31 (fun w => by kernel_rfl) rfl (B7 (A0 rfl) (F2 _) (B7 (A0 rfl) (F4 one_v12) (B7 (A0 rfl) (F4 one_v16_2) I0))) rfl) ?_
    refine R3 ?_
    exact ⟨b3, v12, v16_2, Le.trans (C7 [6, 2, 2, 1, 0, 0, 0] rfl) (E8 0 B6 ⟨rfl, rfl, rfl, trivial⟩)⟩
   refine C4 rfl rfl rfl (G4 rfl Tryz.zeroValue31 rfl) (fun a _ => qz2) ?_
   intro b3 _
   refine R1 ?_
   refine C4 rfl rfl rfl (I8 rfl C5 J5) (fun a _ => qz2) ?_
   intro v13 _
   refine R1 ?_
   refine C4 rfl rfl rfl (G6 6 (fun _ => rfl) (S4 (by' := 16) 6 rfl C5 Tryz.type56 rfl rfl rfl rfl rfl rfl (A0 rfl) (Y5 3 rfl (A0 rfl)) rfl qz3)) (fun a _ => qz2) ?_
   intro v16_3 hone_v16_3
   have one_v16_3 := hone_v16_3.2
   refine I1 rfl rfl rfl (fun ext => I3 (places := #[(0, 1), (1, 4), (5, 1)]) rfl E4 Tryz.zeroValue31 (fun w => by kernel_rfl) rfl (B7 (A0 rfl) (F2 _) (B7 (A0 rfl) (F4 one_v12) (B7 (A0 rfl) (F4 one_v16_3) I0))) rfl) ?_
   refine R3 ?_
   exact ⟨b3, v12, v16_3, Le.trans (C7 [5, 2, 2, 1, 0, 0, 0] rfl) (E8 0 B6 ⟨rfl, rfl, rfl, trivial⟩)⟩
  ·refine C4 rfl rfl rfl (I8 rfl C5 J5) (fun a _ => qz2) ?_
   intro v13 _
   refine AZ2 ?_ ?_ ?_
   ·refine C4 rfl rfl rfl (G6 5 (fun _ => rfl) (I8 rfl B0 B4)) (fun a _ => qz2) ?_
    intro v12 hone_v12
    have one_v12 := hone_v12.2
    refine a8 ?_ ?_
    ·refine C4 rfl rfl rfl (G6 4 (fun _ => rfl) (S4 (by' := 16) 4 rfl C5 Tryz.type56 rfl rfl rfl rfl rfl rfl (A0 rfl) (Y5 3 rfl (A0 rfl)) rfl qz3)) (fun a _ => qz2) ?_
     intro v16_4 hone_v16_4
     have one_v16_4 := hone_v16_4.2
     refine I1 rfl rfl rfl (fun ext => I3 (places := #[(0, 1), (1, 4), (5, 1)]) rfl E4 Tryz.zeroValue31 (fun w => by kernel_rfl) rfl (B7 (A0 rfl) (F2 _) (B7 (A0 rfl) (F4 one_v12) (B7 (A0 rfl) (F4 one_v16_4) I0))) rfl) ?_
     refine R1 ?_
     refine C4 rfl rfl rfl (G4 rfl Tryz.zeroValue31 rfl) (fun a _ => qz2) ?_
     intro b3 _
     refine R3 ?_
     exact ⟨b3, v12, v16_4, Le.trans (C7 [6, 2, 2, 1, 0, 1, 0] rfl) (E8 0 B6 ⟨rfl, rfl, rfl, trivial⟩)⟩
    refine C4 rfl rfl rfl (G4 rfl Tryz.zeroValue31 rfl) (fun a _ => qz2) ?_
    intro b3 _
    refine R1 ?_
    refine C4 rfl rfl rfl (G6 4 (fun _ => rfl) (S4 (by' := 16) 4 rfl C5 Tryz.type56 rfl rfl rfl rfl rfl rfl (A0 rfl) (Y5 3 rfl (A0 rfl)) rfl qz3)) (fun a _ => qz2) ?_
    intro v16_5 hone_v16_5
    have one_v16_5 := hone_v16_5.2
    refine I1 rfl rfl rfl (fun ext => I3 (places := #[(0, 1), (1, 4), (5, 1)]) rfl E4 Tryz.zeroValue31 (fun w => by kernel_rfl) rfl (B7 (A0 rfl) (F2 _) (B7 (A0 rfl) (F4 one_v12) (B7 (A0 rfl) (F4 one_v16_5) I0))) rfl) ?_
    refine R3 ?_
    exact ⟨b3, v12, v16_5, Le.trans (C7 [6, 2, 2, 1, 0, 1, 0] rfl) (E8 0 B6 ⟨rfl, rfl, rfl, trivial⟩)⟩
   ·refine C4 rfl rfl rfl (G6 4 (fun _ => rfl) (S4 (by' := 16) 4 rfl C5 Tryz.type56 rfl rfl rfl rfl rfl rfl (A0 rfl) (Y5 3 rfl (A0 rfl)) rfl qz3)) (fun a _ => qz2) ?_
    intro v16_6 hone_v16_6
    have one_v16_6 := hone_v16_6.2
    refine a8 ?_ ?_
    ·refine C4 rfl rfl rfl (G6 5 (fun _ => rfl) (I8 rfl B0 B4)) (fun a _ => qz2) ?_
     intro v12 hone_v12
     have one_v12 := hone_v12.2
     refine I1 rfl rfl rfl (fun ext => I3 (places := #[(0, 1), (1, 4), (5, 1)]) rfl E4 Tryz.zeroValue31 (fun w => by kernel_rfl) rfl (B7 (A0 rfl) (F2 _) (B7 (A0 rfl) (F4 one_v12) (B7 (A0 rfl) (F4 one_v16_6) I0))) rfl) ?_
     refine R1 ?_
     refine C4 rfl rfl rfl (G4 rfl Tryz.zeroValue31 rfl) (fun a _ => qz2) ?_
     intro b3 _
     refine R3 ?_
     exact ⟨b3, v12, v16_6, Le.trans (C7 [6, 2, 2, 1, 0, 1, 0] rfl) (E8 0 B6 ⟨rfl, rfl, rfl, trivial⟩)⟩
    refine C4 rfl rfl rfl (G4 rfl Tryz.zeroValue31 rfl) (fun a _ => qz2) ?_
    intro b3 _
    refine R1 ?_
    refine C4 rfl rfl rfl (G6 6 (fun _ => rfl) (I8 rfl B0 B4)) (fun a _ => qz2) ?_
    intro v12 hone_v12
    have one_v12 := hone_v12.2
    refine I1 rfl rfl rfl (fun ext => I3 (places := #[(0, 1), (1, 4), (5, 1)]) rfl E4 Tryz.zeroValue31 (fun w => by kernel_rfl) rfl (B7 (A0 rfl) (F2 _) (B7 (A0 rfl) (F4 one_v12) (B7 (A0 rfl) (F4 one_v16_6) I0))) rfl) ?_
    refine R3 ?_
    exact ⟨b3, v12, v16_6, Le.trans (C7 [5, 2, 2, 1, 0, 1, 0] rfl) (E8 0 B6 ⟨rfl, rfl, rfl, trivial⟩)⟩
   refine C4 rfl rfl rfl (G4 rfl Tryz.zeroValue31 rfl) (fun a _ => qz2) ?_
   intro b3 _
   refine a8 ?_ ?_
   ·refine C4 rfl rfl rfl (G6 6 (fun _ => rfl) (I8 rfl B0 B4)) (fun a _ => qz2) ?_
    intro v12 hone_v12
    have one_v12 := hone_v12.2
    refine R1 ?_
    refine C4 rfl rfl rfl (G6 4 (fun _ => rfl) (S4 (by' := 16) 4 rfl C5 Tryz.type56 rfl rfl rfl rfl rfl rfl (A0 rfl) (Y5 3 rfl (A0 rfl)) rfl qz3)) (fun a _ => qz2) ?_
    intro v16_7 hone_v16_7
    have one_v16_7 := hone_v16_7.2
    refine I1 rfl rfl rfl (fun ext => I3 (places := #[(0, 1), (1, 4), (5, 1)]) rfl E4 Tryz.zeroValue31 (fun w => by kernel_rfl) rfl (B7 (A0 rfl) (F2 _) (B7 (A0 rfl) (F4 one_v12) (B7 (A0 rfl) (F4 one_v16_7) I0))) rfl) ?_
    refine R3 ?_
    exact ⟨b3, v12, v16_7, Le.trans (C7 [5, 2, 2, 1, 0, 1, 0] rfl) (E8 0 B6 ⟨rfl, rfl, rfl, trivial⟩)⟩
   refine C4 rfl rfl rfl (G6 4 (fun _ => rfl) (S4 (by' := 16) 4 rfl C5 Tryz.type56 rfl rfl rfl rfl rfl rfl (A0 rfl) (Y5 3 rfl (A0 rfl)) rfl qz3)) (fun a _ => qz2) ?_
   intro v16_8 hone_v16_8
   have one_v16_8 := hone_v16_8.2
   refine R1 ?_
   refine C4 rfl rfl rfl (G6 6 (fun _ => rfl) (I8 rfl B0 B4)) (fun a _ => qz2) ?_
   intro v12 hone_v12
   have one_v12 := hone_v12.2
   refine I1 rfl rfl rfl (fun ext => I3 (places := #[(0, 1), (1, 4), (5, 1)]) rfl E4 Tryz.zeroValue31 (fun w => by kernel_rfl) rfl (B7 (A0 rfl) (F2 _) (B7 (A0 rfl) (F4 one_v12) (B7 (A0 rfl) (F4 one_v16_8) I0))) rfl) ?_
   refine R3 ?_
   exact ⟨b3, v12, v16_8, Le.trans (C7 [5, 2, 2, 1, 0, 1, 0] rfl) (E8 0 B6 ⟨rfl, rfl, rfl, trivial⟩)⟩
  refine C4 rfl rfl rfl (G4 rfl Tryz.zeroValue31 rfl) (fun a _ => qz2) ?_
  intro b3 _
  refine a8 ?_ ?_
  ·refine C4 rfl rfl rfl (G6 5 (fun _ => rfl) (I8 rfl B0 B4)) (fun a _ => qz2) ?_
   intro v12 hone_v12
   have one_v12 := hone_v12.2
   refine R1 ?_
   refine C4 rfl rfl rfl (I8 rfl C5 J5) (fun a _ => qz2) ?_
   intro v13 _
   refine R1 ?_
   refine C4 rfl rfl rfl (G6 6 (fun _ => rfl) (S4 (by' := 16) 6 rfl C5 Tryz.type56 rfl rfl rfl rfl rfl rfl (A0 rfl) (Y5 3 rfl (A0 rfl)) rfl qz3)) (fun a _ => qz2) ?_
   intro v16_9 hone_v16_9
   have one_v16_9 := hone_v16_9.2
   refine I1 rfl rfl rfl (fun ext => I3 (places := #[(0, 1), (1, 4), (5, 1)]) rfl E4 Tryz.zeroValue31 (fun w => by kernel_rfl) rfl (B7 (A0 rfl) (F2 _) (B7 (A0 rfl) (F4 one_v12) (B7 (A0 rfl) (F4 one_v16_9) I0))) rfl) ?_
   refine R3 ?_
   exact ⟨b3, v12, v16_9, Le.trans (C7 [4, 2, 2, 1, 0, 0, 0] rfl) (E8 0 B6 ⟨rfl, rfl, rfl, trivial⟩)⟩
  refine C4 rfl rfl rfl (I8 rfl C5 J5) (fun a _ => qz2) ?_
  intro v13 _
  refine a8 ?_ ?_
  ·refine C4 rfl rfl rfl (G6 6 (fun _ => rfl) (I8 rfl B0 B4)) (fun a _ => qz2) ?_
   intro v12 hone_v12
   have one_v12 := hone_v12.2
   refine R1 ?_
   refine C4 rfl rfl rfl (G6 5 (fun _ => rfl) (S4 (by' := 16) 5 rfl C5 Tryz.type56 rfl rfl rfl rfl rfl rfl (A0 rfl) (Y5 3 rfl (A0 rfl)) rfl qz3)) (fun a _ => qz2) ?_
   intro v16_10 hone_v16_10
   have one_v16_10 := hone_v16_10.2
   refine I1 rfl rfl rfl (fun ext => I3 (places := #[(0, 1), (1, 4), (5, 1)]) rfl E4 Tryz.zeroValue31 (fun w => by kernel_rfl) rfl (B7 (A0 rfl) (F2 _) (B7 (A0 rfl) (F4 one_v12) (B7 (A0 rfl) (F4 one_v16_10) I0))) rfl) ?_
   refine R3 ?_
   exact ⟨b3, v12, v16_10, Le.trans (C7 [4, 2, 2, 1, 0, 1, 0] rfl) (E8 0 B6 ⟨rfl, rfl, rfl, trivial⟩)⟩
  refine C4 rfl rfl rfl (G6 5 (fun _ => rfl) (S4 (by' := 16) 5 rfl C5 Tryz.type56 rfl rfl rfl rfl rfl rfl (A0 rfl) (Y5 3 rfl (A0 rfl)) rfl qz3)) (fun a _ => qz2) ?_
  intro v16_11 hone_v16_11
  have one_v16_11 := hone_v16_11.2
  refine R1 ?_
  refine C4 rfl rfl rfl (G6 6 (fun _ => rfl) (I8 rfl B0 B4)) (fun a _ => qz2) ?_
  intro v12 hone_v12
  have one_v12 := hone_v12.2
  refine I1 rfl rfl rfl (fun ext => I3 (places := #[(0, 1), (1, 4), (5, 1)]) rfl E4 Tryz.zeroValue31 (fun w => by kernel_rfl) rfl (B7 (A0 rfl) (F2 _) (B7 (A0 rfl) (F4 one_v12) (B7 (A0 rfl) (F4 one_v16_11) I0))) rfl) ?_
  refine R3 ?_
  exact ⟨b3, v12, v16_11, Le.trans (C7 [4, 2, 2, 1, 0, 1, 0] rfl) (E8 0 B6 ⟨rfl, rfl, rfl, trivial⟩)⟩
 intro b3 v0 w
 refine R6 ?_
 refine AWP.le (C7 [0, 4, 4, 0, 0, 0] rfl) ?_
 refine S3 [(1, _), (2, _), (3, _)] _ (fun (i : Nat) (v : Value) => i ≤ p.Voters.length) (fun (i : Nat) (v : Value) => [.box b3 31 (pollC p v w), .arr v 40 5 ((p.Voters.take i).map A5.cs), .arr w 56 2 (p.Won.map G3.cs), .arr pv 40 5 (p.Voters.map A5.cs), .arr pw 56 2 (p.Won.map G3.cs), .box b1 31 (pollC p pv pw)]) (fun (i : Nat) (v : Value) => [(4, AV.int i)]) (fun (i : Nat) (v : Value) => p.Voters.length - i) (0) (v0) ?_ (N7 B6 ⟨rfl, rfl, rfl, rfl, trivial⟩) ?_
 ·exact Nat.zero_le _
 intro i v hinv
 refine R9 ?_
 refine A6 (A0 rfl) ?_ ?_
 ·intro h22
  have k22 := of_decide_eq_true h22; try simp only [A4] at k22
  have hlt : i < p.Voters.length := qz65
  obtain ⟨x, hx⟩ := F8 hlt
  have hxy := hs.voters.2 x (D9 hx)
  have hrow := Q7 (f := A5.cs) hx
  refine R8 ?_
  refine A2 rfl (L3 3 rfl B0 B4 (A0 rfl) rfl (A0 rfl) qz6 X8) ?_
  refine A2 rfl (AS9 3 rfl (A0 rfl) rfl Tryz.isAgg40 B4 qz1 D1) ?_
  refine R1 ?_
  intro b5
  refine R6 ?_
  refine A2 rfl (B3 rfl Tryz.call52 rfl (p6 _ qz6) (A1 (A0 rfl) A3)) ?_
  refine R8 ?_
  refine N0 (by' := 56) 2 rfl rfl rfl rfl B0 Tryz.type40 rfl rfl rfl rfl rfl rfl (A0 rfl) (A0 rfl) rfl qz75 ?_
  intro v38_12
  refine R1 ?_
  refine O5 2 rfl fun one_v38_12 => ?_
  refine M2 1 rfl rfl rfl (A0 rfl) (A0 rfl) (F4 one_v38_12) rfl Tryz.sizeOf24 rfl ?_
  refine R6 ?_
  refine Q5 i v (i + 1) (v38_12) ?_ ?_ (Le.trans (C7 [0, 0, 0, 0, 0, 0, 0] rfl) (E8 1 (by (rw [AH8 hx, List.map_append]; rfl)) ⟨rfl, rfl, rfl, rfl, trivial⟩))
  ·exact qz6
  omega
 intro h22
 have k22 := of_decide_eq_false h22; try simp only [A4] at k22
 have hge : p.Voters.length ≤ i := qz65
 rw [List.take_of_length_le hge]
 refine R7 ?_
 exact F1 [3, 3, 1, 1] (v, w) (trivial) rfl B6 (H4 rfl (C3 (ys := _) 6 rfl rfl C8 C0 rfl))
end Go.Proofs.YtkibefcceekmnaaGreatDoor
namespace Go.M
open Go.AV
theorem AG5 {p : TPoll} (g : GP p) {l : A7} (hl : isLetN p.Net l = true) : adj ltI (C9 p l.To).Yes = true ∧ (C9 p l.To).Yes.length ≤ 1000000 ∧ p.Voters[l.To.toNat]? = some (C9 p l.To) ∧ 0 ≤ l.To ∧ l.To.toNat < p.Voters.length := by
  have hnt : H2 p.Net l.To = true := by unfold isLetN at hl; simp only [Bool.and_eq_true] at hl; exact hl.1.1.1.2
  obtain ⟨hn0, hnl, hp, hnn⟩ := n6 g hnt
  have hgv := c1 g hnt
  have h9 := (K3.1 hgv).2.2.1
  unfold T4 at h9
  rw [Bool.and_eq_true] at h9
  exact ⟨h9.2, (V8 g).voters.2 _ (D9 hp), hp, hn0, hnl⟩
end Go.M
namespace Go.Proofs.YtkibefcceekmnaaGreatDoor
open Go Go.AV Go.M
attribute [local irreducible] OpW OpA OpS AWP D3 P2 F0 OpE RetOk K2 M3 Le Ev I4 Q8 Int.tmod Int.tdiv IntKind.wrap
theorem Ao3 (p : TPoll) (pv pw : Value) (v : Int) (hs : PSz p) : F0 Tryz.prog 53 [AV.agg (pollC p pv pw), AV.int v] [.arr pv 40 5 (p.Voters.map A5.cs), .arr pw 56 2 (p.Won.map G3.cs)] (fun _ : Value × Value => True) (fun x => [.arr pv 40 5 (p.Voters.map A5.cs), .arr pw 56 2 (p.Won.map G3.cs), .arr x.1 40 5 ((P8 taI p v).1.Voters.map A5.cs), .arr x.2 56 2 ((P8 taI p v).1.Won.map G3.cs)]) (fun x => AV.tup [AV.agg (pollC (P8 taI p v).1 x.1 x.2), AV.bool (P8 taI p v).2]) := by
 have hv1 := hs.voters.1
 refine E1 Tryz.func53 rfl Tryz.ntmps53 rfl ?_
 refine R3 ?_
 intro b2
 refine R1 ?_
 intro b4
 refine R7 ?_
 refine A2 rfl (V7 rfl Tryz.call82 rfl (Aa8 p v hs) (M4 _) (F6 (f4 (A0 rfl) (W6 (D8 (I5 (D9 (i := 2) rfl) F5) (D8 G5 (D8 G5 (D8 G5 (D8 G5 (D8 (I5 (D9 (i := 3) rfl) F5) T1)))))))) (F6 (evb (A0 rfl)) N3))) ?_
 refine R5 ?_
 refine J6 rfl (fun hc => L3 2 rfl B0 B4 (B9 rfl hc) rfl (B9 rfl hc) Ac0 Ac1) ?_
 refine J6 rfl (fun hc => J1 2 rfl D2 rfl N6 (B9 rfl hc) rfl rfl qz5) ?_
 refine J6 rfl (fun hc => K0 2 rfl (B9 rfl hc) rfl X1 qz5 rfl) ?_
 refine R6 ?_
 refine J6 rfl (fun hc => L3 2 rfl B0 B4 (B9 rfl hc) rfl (B9 rfl hc) Ac0 Ac1) ?_
 refine J6 rfl (fun hc => J1 2 rfl D2 rfl D0 (B9 rfl hc) rfl rfl qz5) ?_
 refine J6 rfl (fun hc => K0 2 rfl (B9 rfl hc) rfl K5 qz5 rfl) ?_
 refine R3 ?_
 refine A6 (A0 rfl) ?_ ?_
 ·intro h30
  rw [show P8 taI p v = (X2, false) from if_neg (An5 h30)]
  refine R7 ?_
  refine J3 0 2 1 rfl rfl (K9 2 rfl rfl (K9 3 rfl rfl M7)) ?_
  refine J3 0 4 4 rfl rfl (K9 2 rfl rfl (K9 3 rfl rfl M7)) ?_
  refine K8 40 5 ?_
  refine K8 56 2 ?_
  exact F1 [4, 4, 1, 0] ((Value.slice none 0 0), (Value.slice none 0 0)) (trivial) rfl B6 (L7 rfl D1 (B2 (C3 (ys := _) 2 rfl rfl C8 C0 rfl) (B2 (A8 rfl B6) E3)))
 intro h30
 have hm : e8 p v = true := An6 h30
 rw [show P8 taI p v = (netP (g8 p v (n2 p v)) (sendAll p.Net v (taI ((C9 p v).Term + 1)) p.Voters.length), true) from if_pos hm]
 obtain ⟨hh, hup, hte⟩ := AV6 hm
 obtain ⟨hgp, hnd⟩ := AG2.1 hh
 have hx := Z5 hh
 have hr := s4 hh
 have htm := Aa7 hh
 rw [taI_dec (t := (C9 p v).Term + 1) qz6]
 refine R4 ?_
 refine E5 [2, 2] rfl rfl rfl rfl Tryz.call26 rfl (AD4 p pv pw hs) (A1 (A0 rfl) A3) rfl ?_
 intro x33 ok33
 refine R1 ?_
 intro b6
 refine R7 ?_
 refine A2 rfl (L3 1 rfl B0 B4 (A0 rfl) rfl (A0 rfl) Ac0 Ac1) ?_
 refine A2 rfl (J1 1 rfl D2 rfl D0 (A0 rfl) rfl rfl qz5) ?_
 refine A2 rfl (K0 1 rfl (A0 rfl) rfl K5 qz5 rfl) ?_
 refine R13 ?_
 refine A2 rfl (L3 3 rfl B0 B4 (A0 rfl) rfl (A0 rfl) Ac0 Ac1) ?_
 refine V2 3 rfl rfl rfl (A0 rfl) (A0 rfl) (F2 _) rfl B4 rfl Ab8 ?_
 refine R7 ?_
 refine AWP.le (C7 [0, 2, 2] rfl) ?_
 refine J0 [(1, _), (2, _), (4, _), (5, _), (6, _), (7, _)] _ (fun (i : Nat) => i ≤ p.Voters.length) (fun (i : Nat) => [.box b6 31 (AS3 (sendAll p.Net v (97 :: decD ((C9 p v).Term + 1).toNat) i) x33.1 x33.2), .arr x33.1 40 5 ((p.Voters.set v.toNat (n2 p v)).map A5.cs), .arr x33.2 56 2 (p.Won.map G3.cs)]) (fun (i : Nat) => [(8, AV.int i)]) (fun (i : Nat) => p.Voters.length - i) (0) ?_ (N7 (by (rw [List.map_set]; rfl)) ⟨rfl, rfl, rfl, rfl, rfl, rfl, rfl, trivial⟩) ?_
 ·exact Nat.zero_le _
 intro i hinv
 refine R9 ?_
 refine A6 (A0 rfl) ?_ ?_
 ·intro h54
  have k54 := of_decide_eq_true h54; try simp only [A4] at k54
  have hlt : i < p.Voters.length := (by simp only [A4, decide_eq_true_eq] at h54; omega)
  have hsa := (u9 hgp.net v (97 :: decD ((C9 p v).Term + 1).toNat) i).1
  refine R9 ?_
  refine A6 (A0 rfl) ?_ ?_
  ·intro h59
   have k59 := AH2 h59; try simp only [A4] at k59
   have hT9 : True := trivial
   have hdl := z8 (k := 7) (n := ((C9 p v).Term + 1).toNat) qz6 D1
   refine H1 9 qz8 qz8 rfl ?_
   refine R1 ?_
   refine B8 rfl rfl (O4 _ 0 rfl (A0 rfl) rfl C2 B1 rfl rfl) ?_
   refine R3 ?_
   refine B8 rfl rfl (B3 rfl Tryz.call84 rfl ((by have h9 := Aa6 ((C9 p v).Term + 1).toNat qz6; rw [show ((((C9 p v).Term + 1).toNat : Nat) : Int) = (C9 p v).Term + 1 by omega] at h9; exact h9)) (A1 (A0 rfl) A3)) ?_
   refine B8 rfl rfl (AM0 rfl (W5 (l := [97]) rfl) (A0 rfl) (by show [97].length + (decD ((C9 p v).Term + 1).toNat).length ≤ _; simp; omega)) ?_
   refine B8 rfl rfl (B3 rfl Tryz.call83 rfl ((by have h9 := AV5 (sendAll p.Net v (97 :: decD ((C9 p v).Term + 1).toNat) i) v (i : Int) (97 :: decD ((C9 p v).Term + 1).toNat) hsa (by rw [J9]; omega); exact h9)) (A1 (A0 rfl) (A1 (A0 rfl) (A1 (A0 rfl) (A1 (A0 rfl) A3))))) ?_
   refine R2 ?_
   refine S1 0 rfl rfl rfl (A0 rfl) (A0 rfl) (F2 _) rfl B1 rfl ?_
   refine R6 ?_
   refine L0 i (i + 1) ?_ ?_ (Le.trans (C7 [0, 0, 0] rfl) (N7 qz47 ⟨rfl, rfl, rfl, rfl, rfl, rfl, rfl, trivial⟩))
   ·exact qz6
   omega
  intro h59
  have k59 := l0 h59; try simp only [A4] at k59
  have hiv : (i : Int) = v := (by simpa using h59)
  have hsame : sendAll p.Net v (97 :: decD ((C9 p v).Term + 1).toNat) (i + 1) = sendAll p.Net v (97 :: decD ((C9 p v).Term + 1).toNat) i := (by show Y9 (sendAll p.Net v (97 :: decD ((C9 p v).Term + 1).toNat) i) v (i : Int) _ = _; rw [hiv, Az9])
  refine R6 ?_
  refine L0 i (i + 1) ?_ ?_ (Le.trans (C7 [0, 0, 0] rfl) (N7 qz47 ⟨rfl, rfl, rfl, rfl, rfl, rfl, rfl, trivial⟩))
  ·exact qz6
  omega
 intro h54
 have k54 := of_decide_eq_false h54; try simp only [A4] at k54
 have hie : i = p.Voters.length := (by simp only [A4, decide_eq_false_iff_not] at h54; omega)
 subst hie
 refine R8 ?_
 exact F1 [3, 3, 1, 1] (x33.1, x33.2) (trivial) rfl B6 (L7 rfl D1 (B2 (C3 (ys := _) 5 rfl rfl C8 C0 rfl) (B2 (A8 rfl B6) E3)))
theorem Ae4 (p : TPoll) (pv pw : Value) (v : Int) (hs : PSz p) : F0 Tryz.prog 54 [AV.agg (pollC p pv pw), AV.int v] [.arr pv 40 5 (p.Voters.map A5.cs), .arr pw 56 2 (p.Won.map G3.cs)] (fun _ : Value × Value => True) (fun x => [.arr pv 40 5 (p.Voters.map A5.cs), .arr pw 56 2 (p.Won.map G3.cs), .arr x.1 40 5 ((S9 p v).1.Voters.map A5.cs), .arr x.2 56 2 ((S9 p v).1.Won.map G3.cs)]) (fun x => AV.tup [AV.agg (pollC (S9 p v).1 x.1 x.2), AV.bool (S9 p v).2]) := by
 refine E1 Tryz.func54 rfl Tryz.ntmps54 rfl ?_
 refine R3 ?_
 intro b2
 refine R1 ?_
 intro b4
 refine R7 ?_
 refine A2 rfl (V7 rfl Tryz.call82 rfl (Aa8 p v hs) (M4 _) (F6 (f4 (A0 rfl) (W6 (D8 (I5 (D9 (i := 2) rfl) F5) (D8 G5 (D8 G5 (D8 G5 (D8 G5 (D8 (I5 (D9 (i := 3) rfl) F5) T1)))))))) (F6 (evb (A0 rfl)) N3))) ?_
 refine R2 ?_
 refine A6 (A0 rfl) ?_ ?_
 ·intro h11
  rw [show S9 p v = (X2, false) from if_neg (by simpa using h11)]
  refine R7 ?_
  refine J3 0 2 1 rfl rfl (K9 2 rfl rfl (K9 3 rfl rfl M7)) ?_
  refine J3 0 4 4 rfl rfl (K9 2 rfl rfl (K9 3 rfl rfl M7)) ?_
  refine K8 40 5 ?_
  refine K8 56 2 ?_
  exact F1 [4, 4, 1, 0] ((Value.slice none 0 0), (Value.slice none 0 0)) (trivial) rfl qz42 (L7 rfl D1 (B2 (C3 (ys := _) 2 rfl rfl C8 C0 rfl) (B2 (A8 rfl B6) E3)))
 intro h11
 have hh : hasV p v = true := (by simpa using h11)
 rw [show S9 p v = (g8 p v (fallV (C9 p v)), true) from if_pos hh]
 have hx := Z5 hh
 have hr := s4 hh
 refine R4 ?_
 refine E5 [2, 2] rfl rfl rfl rfl Tryz.call26 rfl (AD4 p pv pw hs) (A1 (A0 rfl) A3) rfl ?_
 intro x14 ok14
 refine R1 ?_
 intro b6
 refine R7 ?_
 refine A2 rfl (L3 1 rfl B0 B4 (A0 rfl) rfl (A0 rfl) Ac0 Ac1) ?_
 refine A2 rfl (AS9 1 rfl (A0 rfl) rfl Tryz.isAgg40 B4 (by first | exact (Q7 (f := A5.cs) hx) | exact E7 ((Q7 (f := A5.cs) hx)) | exact E7 (E7 ((Q7 (f := A5.cs) hx))) | exact E7 (E7 (E7 ((Q7 (f := A5.cs) hx)))) | exact E7 (E7 (E7 (E7 ((Q7 (f := A5.cs) hx))))) | exact E7 (E7 (E7 (E7 (E7 ((Q7 (f := A5.cs) hx))))))) D1) ?_
 refine R1 ?_
 intro b7
 refine R16 ?_
 refine A2 rfl (L3 4 rfl B0 B4 (A0 rfl) rfl (A0 rfl) Ac0 Ac1) ?_
 refine V2 4 rfl rfl rfl (A0 rfl) (A0 rfl) (F2 _) rfl B4 rfl Ab8 ?_
 refine R8 ?_
 exact F1 [2, 2, 2, 2] (x14.1, x14.2) (trivial) rfl qz42 (L7 rfl D1 (B2 (C3 (ys := _) 6 rfl rfl C8 C0 rfl) (B2 (A8 rfl B6) E3)))
end Go.Proofs.YtkibefcceekmnaaGreatDoor
namespace Go.M
open Go.AV
theorem Ax0 {ty : Int → Str} {p : TPoll} {l : A7} (h : (!(C9 p l.To).Up || !within (l1R (l.Body.drop 1)) 1 200) = true) : d5 rdN ty p l = p := by
  unfold d5 rdN
  cases hw : within (l1R (l.Body.drop 1)) 1 200 with
  | false => rw [if_neg Bool.false_ne_true]
  | true =>
    rw [hw] at h
    rw [if_pos rfl]
    dsimp only
    rw [if_neg (by intro k; rw [k] at h; cases h)]
theorem hearS_go {ty : Int → Str} {p : TPoll} {l : A7} {c : UInt8} (hc : l.Body[0]? = some c) (h : (!(C9 p l.To).Up || !within (l1R (l.Body.drop 1)) 1 200) = false) : ((1 ≤ l1R (l.Body.drop 1) ∧ l1R (l.Body.drop 1) ≤ 200) ∧ (C9 p l.To).Up = true) ∧ d5 rdN ty p l = if (c.toNat : Int) = 97 then e9 ty p l (l1R (l.Body.drop 1)) else if (c.toNat : Int) = 121 then yesP p l (l1R (l.Body.drop 1)) else p := by
  rw [Bool.or_eq_false_iff, Bool.not_eq_false', Bool.not_eq_false'] at h
  refine ⟨⟨K4.1 h.2, h.1⟩, ?_⟩
  have hb : l.Body.head? = some c := by rw [List.head?_eq_getElem?]; exact hc
  have e1 : ∀ k : UInt8, (l.Body.head? = some k) = ((c.toNat : Int) = (k.toNat : Int)) := fun k => by
    rw [hb]
    exact propext ⟨fun e => by injection e with e; rw [e], fun e => by congr 1; exact UInt8.toNat_inj.1 qz6⟩
  unfold d5 rdN
  rw [if_pos h.2]
  dsimp only
  rw [if_pos h.1]
  simp only [e1]
  rfl
def doSP (p : TPoll) (a : F7) : TPoll × Bool := if (doI p a).2 = true then doI p a else (X2, false)
theorem doSP_ok (p : TPoll) (a : F7) : (doSP p a).2 = (doI p a).2 := by
  unfold doSP
  cases h : (doI p a).2 with
  | true => rw [if_pos rfl, h]
  | false => rw [if_neg Bool.false_ne_true]
theorem AR7 {p : TPoll} {a : F7} {x : TPoll × Bool} (h : doI p a = x) (h2 : x.2 = false → x = (X2, false)) : doSP p a = x := by
  unfold doSP
  rw [h]
  cases hx : x.2 with
  | true => rw [if_pos rfl]
  | false => rw [if_neg Bool.false_ne_true, h2 hx]
theorem AO1 {p : TPoll} {a : F7} {x : D5 × Bool} (h : doI p a = W0 p x) : doSP p a = ((if x.2 = true then netP p x.1 else X2), x.2) := by
  unfold doSP
  rw [h]
  unfold W0
  cases x.2 <;> rfl
theorem Ax1 {ta : Int → Str} {p : TPoll} {v : Int} (h : (P8 ta p v).2 = false) : P8 ta p v = (X2, false) := by
  unfold P8 at h ⊢
  split at h
  · cases h
  · rw [if_neg ‹_›]
theorem BC3 {p : TPoll} {v : Int} (h : (S9 p v).2 = false) : S9 p v = (X2, false) := by
  unfold S9 at h ⊢
  split at h
  · cases h
  · rw [if_neg ‹_›]
theorem BC4 {p : TPoll} (h : (V0 p).2 = false) : V0 p = (X2, false) := by
  unfold V0 tickP at h ⊢
  split at h
  · cases h
  · rw [if_neg ‹_›]
theorem tickS_no {p : TPoll} (h : (!goodPoll p || !(tickN p.Net).2) = true) : V0 p = (X2, false) := by
  cases hg : goodPoll p with
  | false => exact if_neg (by rw [hg]; simp)
  | true => rw [hg] at h; exact Ao1 AO7
theorem tickS_go {p : TPoll} (h : (!goodPoll p || !(tickN p.Net).2) = false) : goodPoll p = true ∧ (tickN p.Net).2 = true := by
  rw [Bool.or_eq_false_iff, Bool.not_eq_false', Bool.not_eq_false'] at h; exact h
theorem AO2 (p : TPoll) (a : F7) : H9 p a = if (doSP p a).2 = true then (doSP p a).1 else p := by
  rw [doSP_ok]
  unfold H9 AI9 doSP
  cases h : (doI p a).2 with
  | true => rw [if_pos rfl, if_pos rfl, if_pos rfl]
  | false => rw [if_neg Bool.false_ne_true, if_neg Bool.false_ne_true]
end Go.M
namespace Go.Proofs.YtkibefcceekmnaaGreatDoor
open Go Go.AV Go.M
attribute [local irreducible] OpW OpA OpS AWP D3 P2 F0 OpE RetOk K2 M3 Le Ev I4 Q8 Int.tmod Int.tdiv IntKind.wrap
theorem BC5 (p : TPoll) (v w : Value) (l : A7) (t : Int) (g : GP p) (hl : isLetN p.Net l = true) (ht : 1 ≤ t ∧ t ≤ 200) : F0 Tryz.prog 106 [AV.agg (pollC p v w), AV.agg l.cs, AV.int t] [.arr v 40 5 (p.Voters.map A5.cs), .arr w 56 2 (p.Won.map G3.cs)] (fun _ : Value × Value => True) (fun x => [.arr x.1 40 5 ((e9 tyI p l t).Voters.map A5.cs), .arr x.2 56 2 ((e9 tyI p l t).Won.map G3.cs)]) (fun x => AV.agg (pollC (e9 tyI p l t) x.1 x.2)) := by
 obtain ⟨_, _, hp, hn0, hnl⟩ := AG5 g hl
 have hrow := Q7 (f := A5.cs) hp
 have hdl := z8 (k := 7) (n := t.toNat) qz6 D1
 have hty := tyI_dec (t := t) qz6
 refine E1 Tryz.func106 rfl Tryz.ntmps106 rfl ?_
 refine R3 ?_
 intro b3
 refine R1 ?_
 intro b4
 refine R1 ?_
 intro b6
 refine R7 ?_
 refine A2 rfl (L3 3 rfl B0 B4 (A0 rfl) rfl (A0 rfl) qz6 X8) ?_
 refine A2 rfl (AS9 3 rfl (A0 rfl) rfl Tryz.isAgg40 B4 qz1 D1) ?_
 refine R1 ?_
 intro b7
 refine R10 ?_
 refine A6 (A0 rfl) ?_ ?_
 ·intro h17
  have k17 := of_decide_eq_true h17; try simp only [A4] at k17
  refine R26 ?_
  refine A6 (A0 rfl) ?_ ?_
  ·intro h36
   first | rw [askT k17] | rw [askF k17 h36]
   refine R7 ?_
   refine H1 11 qz8 qz8 rfl ?_
   refine R1 ?_
   refine B8 rfl rfl (O4 _ 3 rfl (A0 rfl) rfl C2 B1 rfl rfl) ?_
   refine R5 ?_
   refine B8 rfl rfl (B3 rfl Tryz.call84 rfl (qz76) (A1 (A0 rfl) A3)) ?_
   refine B8 rfl rfl (AM0 rfl (W5 (l := [121]) rfl) (A0 rfl) (by show [121].length + (decD t.toNat).length ≤ _; simp; omega)) ?_
   refine B8 rfl rfl (B3 rfl Tryz.call83 rfl (qz57) (A1 (A0 rfl) (A1 (A0 rfl) (A1 (A0 rfl) (A1 (A0 rfl) A3))))) ?_
   refine R2 ?_
   refine S1 3 rfl rfl rfl (A0 rfl) (A0 rfl) (F2 _) rfl B1 rfl ?_
   refine R2 ?_
   try rw [show tyI t = [121] ++ decD t.toNat from hty]
   refine R6 ?_
   refine A2 rfl (L3 4 rfl B0 B4 (A0 rfl) rfl (A0 rfl) qz6 X8) ?_
   refine V2 4 rfl rfl rfl (A0 rfl) (A0 rfl) (F2 _) rfl B4 rfl X8 ?_
   refine R7 ?_
   exact F1 [4, 4] (v, w) (trivial) rfl qz38 (H4 rfl (C3 (ys := _) 1 rfl rfl C8 C0 rfl))
  intro h36
  exfalso; simp at h36
 intro h17
 have k17 := of_decide_eq_false h17; try simp only [A4] at k17
 refine R21 ?_
 refine A6 (A0 rfl) ?_ ?_
 ·intro h36
  first | rw [askT k17] | rw [askF k17 h36]
  refine R7 ?_
  refine H1 11 qz8 qz8 rfl ?_
  refine R1 ?_
  refine B8 rfl rfl (O4 _ 3 rfl (A0 rfl) rfl C2 B1 rfl rfl) ?_
  refine R5 ?_
  refine B8 rfl rfl (B3 rfl Tryz.call84 rfl (qz76) (A1 (A0 rfl) A3)) ?_
  refine B8 rfl rfl (AM0 rfl (W5 (l := [121]) rfl) (A0 rfl) (by show [121].length + (decD t.toNat).length ≤ _; simp; omega)) ?_
  refine B8 rfl rfl (B3 rfl Tryz.call83 rfl (qz57) (A1 (A0 rfl) (A1 (A0 rfl) (A1 (A0 rfl) (A1 (A0 rfl) A3))))) ?_
  refine R2 ?_
  refine S1 3 rfl rfl rfl (A0 rfl) (A0 rfl) (F2 _) rfl B1 rfl ?_
  refine R2 ?_
  try rw [show tyI t = [121] ++ decD t.toNat from hty]
  refine R6 ?_
  refine A2 rfl (L3 4 rfl B0 B4 (A0 rfl) rfl (A0 rfl) qz6 X8) ?_
  refine V2 4 rfl rfl rfl (A0 rfl) (A0 rfl) (F2 _) rfl B4 rfl X8 ?_
  refine R7 ?_
  exact F1 [4, 4] (v, w) (trivial) rfl qz38 (H4 rfl (C3 (ys := _) 1 rfl rfl C8 C0 rfl))
 intro h36
 rw [askN hp k17 h36]
 refine R2 ?_
 try rw [show tyI t = [121] ++ decD t.toNat from hty]
 refine R6 ?_
 refine A2 rfl (L3 4 rfl B0 B4 (A0 rfl) rfl (A0 rfl) qz6 X8) ?_
 refine V2 4 rfl rfl rfl (A0 rfl) (A0 rfl) (F2 _) rfl B4 rfl X8 ?_
 refine R7 ?_
 exact F1 [4, 4] (v, w) (trivial) rfl qz38 (H4 rfl (C3 (ys := _) 1 rfl rfl C8 C0 rfl))
theorem BC6 (p : TPoll) (v w : Value) (l : A7) (t : Int) (g : GP p) (hl : isLetN p.Net l = true) : F0 Tryz.prog 107 [AV.agg (pollC p v w), AV.agg l.cs, AV.int t] [.arr v 40 5 (p.Voters.map A5.cs), .arr w 56 2 (p.Won.map G3.cs)] (fun _ : Value × Value => True) (fun x => [.arr x.1 40 5 ((yesP p l t).Voters.map A5.cs), .arr x.2 56 2 ((yesP p l t).Won.map G3.cs)]) (fun x => AV.agg (pollC (yesP p l t) x.1 x.2)) := by
 obtain ⟨hsr, hyl, hp, hn0, hnl⟩ := AG5 g hl
 have hrow := Q7 (f := A5.cs) hp
 obtain ⟨X, hX⟩ : ∃ X, C9 p l.To = X := ⟨_, rfl⟩
 rw [hX] at hsr hyl hp hrow
 have hpl := AT4 X.Yes l.From
 have hw6 := g.won
 have hv5 := (V8 g).voters.1
 refine E1 Tryz.func107 rfl Tryz.ntmps107 rfl ?_
 refine R3 ?_
 intro b3
 refine R1 ?_
 intro b4
 refine R1 ?_
 intro b6
 refine R7 ?_
 refine A2 rfl (L3 3 rfl B0 B4 (A0 rfl) rfl (A0 rfl) qz6 X8) ?_
 refine A2 rfl (AS9 3 rfl (A0 rfl) rfl Tryz.isAgg40 B4 qz1 D1) ?_
 refine R1 ?_
 intro b7
 refine R17 ?_
 refine A6 (A0 rfl) ?_ ?_
 ·intro h24
  rw [yesPn (by unfold U4; rw [hX]; rw [← Bool.not_eq_true', Bool.not_and]; exact h24)]
  refine R6 ?_
  exact F1 [4, 4] (v, w) (trivial) rfl qz27 (H4 rfl (C3 (ys := _) 1 rfl rfl C8 C0 rfl))
 intro h24
 have hmc : U4 (C9 p l.To) l.To t = true := (by unfold U4; rw [hX]; rw [Bool.or_eq_false_iff, bne_eq_false_iff_eq, bne_eq_false_iff_eq] at h24; rw [beq_iff_eq.2 h24.1, beq_iff_eq.2 h24.2]; rfl)
 refine R7 ?_
 refine A2 rfl (B3 rfl Tryz.call119 rfl (BC1 X.Yes l.From hsr hyl) (A1 (A0 rfl) (A1 (A0 rfl) A3))) ?_
 refine A2 rfl (B3 rfl Tryz.call52 rfl (p6 _ qz6) (A1 (A0 rfl) A3)) ?_
 refine R9 ?_
 refine A2 rfl (u2 rfl D4 (A0 rfl) AE5) ?_
 refine R10 ?_
 refine A6 (A0 rfl) ?_ ?_
 ·intro h45
  have hwn : wins (P9 X l.From) p.Voters.length = true := (by unfold wins; simp only [A4] at h45; exact h45)
  rw [yesPw hmc (by rw [hX]; exact hwn), hX]
  refine R12 ?_
  refine A6 (A0 rfl) ?_ ?_
  ·intro h50
   have k50 := of_decide_eq_true h50; try simp only [A4] at k50
   rw [if_pos (show (p.Won.length : Int) < 60 by simp only [A4] at h50; simpa using h50)]
   refine R8 ?_
   refine N0 (by' := 16) 5 rfl rfl rfl rfl C5 Tryz.type56 rfl rfl rfl rfl rfl rfl (A0 rfl) (A0 rfl) rfl o4 ?_
   intro v58_1
   refine R1 ?_
   refine O5 5 rfl fun one_v58_1 => ?_
   refine M2 3 rfl rfl rfl (A0 rfl) (A0 rfl) (F4 one_v58_1) rfl Y6 rfl ?_
   refine R8 ?_
   refine A2 rfl (L3 4 rfl B0 B4 (A0 rfl) rfl (A0 rfl) qz6 X8) ?_
   refine V2 4 rfl rfl rfl (A0 rfl) (A0 rfl) (F2 _) rfl B4 rfl X8 ?_
   refine R7 ?_
   exact F1 [4, 4] (v, v58_1) (trivial) rfl qz27 (H4 rfl (C3 (ys := _) 1 rfl rfl C8 C0 rfl))
  intro h50
  have k50 := of_decide_eq_false h50; try simp only [A4] at k50
  rw [if_neg (show ¬ (p.Won.length : Int) < 60 by simp only [A4] at h50; simpa using h50)]
  refine R8 ?_
  refine A2 rfl (L3 4 rfl B0 B4 (A0 rfl) rfl (A0 rfl) qz6 X8) ?_
  refine V2 4 rfl rfl rfl (A0 rfl) (A0 rfl) (F2 _) rfl B4 rfl X8 ?_
  refine R7 ?_
  exact F1 [4, 4] (v, w) (trivial) rfl qz27 (H4 rfl (C3 (ys := _) 1 rfl rfl C8 C0 rfl))
 intro h45
 have hwn : wins (P9 X l.From) p.Voters.length = false := (by unfold wins; simp only [A4] at h45; exact h45)
 rw [yesPs hmc (by rw [hX]; exact hwn), hX]
 refine R8 ?_
 refine A2 rfl (L3 4 rfl B0 B4 (A0 rfl) rfl (A0 rfl) qz6 X8) ?_
 refine V2 4 rfl rfl rfl (A0 rfl) (A0 rfl) (F2 _) rfl B4 rfl X8 ?_
 refine R7 ?_
 exact F1 [4, 4] (v, w) (trivial) rfl qz27 (H4 rfl (C3 (ys := _) 1 rfl rfl C8 C0 rfl))
theorem Ax2 (p : TPoll) (v w : Value) (l : A7) (g : GP p) (hl : isLetN p.Net l = true) : F0 Tryz.prog 87 [AV.agg (pollC p v w), AV.agg l.cs] [.arr v 40 5 (p.Voters.map A5.cs), .arr w 56 2 (p.Won.map G3.cs)] (fun _ : Value × Value => True) (fun x => [.arr x.1 40 5 ((O2 p l).Voters.map A5.cs), .arr x.2 56 2 ((O2 p l).Won.map G3.cs)]) (fun x => AV.agg (pollC (O2 p l) x.1 x.2)) := by
 obtain ⟨_, _, hp, hn0, hnl⟩ := AG5 g hl
 have hrow := Q7 (f := A5.cs) hp
 have hlr := Z4 hl
 obtain ⟨c0, hc0⟩ := F8 (show 0 < l.Body.length by omega)
 refine E1 Tryz.func87 rfl Tryz.ntmps87 rfl ?_
 refine R3 ?_
 intro b2
 refine R1 ?_
 intro b3
 refine R1 ?_
 intro b4
 refine R5 ?_
 refine A2 rfl (Aj9 rfl I2 (A0 rfl) D4 qz6 qz6) ?_
 refine A2 rfl (B3 rfl Tryz.call105 rfl (Aq3 (l.Body.drop 1) (by rw [List.length_drop]; omega)) (A1 (A0 rfl) A3)) ?_
 refine R9 ?_
 refine A2 rfl (L3 3 rfl B0 B4 (A0 rfl) rfl (A0 rfl) qz6 X8) ?_
 refine A2 rfl (J1 3 rfl D2 rfl N6 (A0 rfl) rfl rfl qz1) ?_
 refine A2 rfl (K0 3 rfl (A0 rfl) rfl X1 qz1 rfl) ?_
 refine R3 ?_
 refine J6 rfl (fun hc => B3 rfl Tryz.call35 rfl (O0 _ _ _) (A1 (B9 rfl hc) (A1 D4 (A1 D4 A3)))) ?_
 refine R3 ?_
 refine A6 (A0 rfl) ?_ ?_
 ·intro h22
  rw [show O2 p l = p from Ax0 h22]
  refine R6 ?_
  exact F1 [3, 3] (v, w) (trivial) rfl B6 (H4 rfl (C3 (ys := _) 0 rfl rfl C8 C0 rfl))
 intro h22
 obtain ⟨⟨hgo1, hup⟩, hgo2⟩ := hearS_go (ty := tyI) hc0 h22
 refine R6 ?_
 refine A2 rfl (AE7 rfl I2 (A0 rfl) D4 qz6 hc0) ?_
 refine R7 ?_
 refine A6 (A0 rfl) ?_ ?_
 ·intro h27
  have k27 := G2 h27; try simp only [A4] at k27
  rw [show O2 p l = e9 tyI p l (l1R (l.Body.drop 1)) by rw [show O2 p l = _ from hgo2, if_pos (by simpa using h27)]]
  refine R5 ?_
  refine E5 [3, 3] rfl rfl rfl rfl Tryz.call106 rfl (BC5 p v w l (l1R (l.Body.drop 1)) g hl hgo1) (A1 (A0 rfl) (A1 (A0 rfl) (A1 (A0 rfl) A3))) rfl ?_
  intro x32 ok32
  refine R3 ?_
  exact F1 [0, 0] (x32.1, x32.2) (trivial) rfl B6 (H4 rfl (C3 (ys := _) 2 rfl rfl C8 C0 rfl))
 intro h27
 have k27 := G1 h27; try simp only [A4] at k27
 refine R5 ?_
 refine A6 (A0 rfl) ?_ ?_
 ·intro h33
  have k33 := G2 h33; try simp only [A4] at k33
  rw [show O2 p l = yesP p l (l1R (l.Body.drop 1)) by rw [show O2 p l = _ from hgo2, if_neg (by simpa using h27), if_pos (by simpa using h33)]]
  refine R5 ?_
  refine E5 [3, 3] rfl rfl rfl rfl Tryz.call107 rfl (BC6 p v w l (l1R (l.Body.drop 1)) g hl) (A1 (A0 rfl) (A1 (A0 rfl) (A1 (A0 rfl) A3))) rfl ?_
  intro x38 ok38
  refine R3 ?_
  exact F1 [0, 0] (x38.1, x38.2) (trivial) rfl B6 (H4 rfl (C3 (ys := _) 2 rfl rfl C8 C0 rfl))
 intro h33
 have k33 := G1 h33; try simp only [A4] at k33
 rw [show O2 p l = p by rw [show O2 p l = _ from hgo2, if_neg (by simpa using h27), if_neg (by simpa using h33)]]
 refine R7 ?_
 exact F1 [3, 3] (v, w) (trivial) rfl B6 (H4 rfl (C3 (ys := _) 0 rfl rfl C8 C0 rfl))
theorem Aj0 (p : TPoll) (pv pw : Value) (hs : PSz p) : F0 Tryz.prog 55 [AV.agg (pollC p pv pw)] [.arr pv 40 5 (p.Voters.map A5.cs), .arr pw 56 2 (p.Won.map G3.cs)] (fun _ : Value × Value => True) (fun x => [.arr pv 40 5 (p.Voters.map A5.cs), .arr pw 56 2 (p.Won.map G3.cs), .arr x.1 40 5 ((V0 p).1.Voters.map A5.cs), .arr x.2 56 2 ((V0 p).1.Won.map G3.cs)]) (fun x => AV.tup [AV.agg (pollC (V0 p).1 x.1 x.2), AV.bool (V0 p).2]) := by
 have hns : p.Net.size ≤ 1048576 := Nat.le_trans hs.net D1
 refine E1 Tryz.func55 rfl Tryz.ntmps55 rfl ?_
 refine R3 ?_
 intro b1
 refine R1 ?_
 intro b2
 refine R5 ?_
 refine A2 rfl (O4 _ 1 rfl (A0 rfl) rfl C2 B1 rfl rfl) ?_
 refine A2 rfl (B3 rfl Tryz.call85 rfl (Ai4 p.Net hns) (A1 (A0 rfl) A3)) ?_
 refine R4 ?_
 intro b4
 refine R7 ?_
 refine A2 rfl (V7 rfl Tryz.call16 rfl (AB2 p hs) (M4 _) (F6 (f4 (A0 rfl) (W6 (D8 (I5 (D9 (i := 3) rfl) F5) (D8 G5 (D8 G5 (D8 G5 (D8 G5 (D8 (I5 (D9 (i := 4) rfl) F5) T1)))))))) N3)) ?_
 refine R6 ?_
 refine A6 (A0 rfl) ?_ ?_
 ·intro h23
  rw [tickS_no h23]
  refine R7 ?_
  refine J3 1 2 1 rfl rfl (K9 3 rfl rfl (K9 4 rfl rfl M7)) ?_
  refine J3 1 4 4 rfl rfl (K9 3 rfl rfl (K9 4 rfl rfl M7)) ?_
  refine K8 40 5 ?_
  refine K8 56 2 ?_
  exact F1 [5, 5, 1, 0] ((Value.slice none 0 0), (Value.slice none 0 0)) (trivial) rfl B6 (L7 rfl D1 (B2 (C3 (ys := _) 3 rfl rfl C8 C0 rfl) (B2 (A8 rfl B6) E3)))
 intro h23
 obtain ⟨hg, htk⟩ := tickS_go h23
 have hgp := U1.1 hg
 rw [Ao0 hg htk]
 obtain ⟨_, hg1, hh1⟩ := AB9 htk
 obtain ⟨n1, hn1⟩ : ∃ n1, (tickN p.Net).1 = n1 := ⟨_, rfl⟩
 rw [hn1] at hg1 hh1 ⊢
 have hgl := AQ6 hg1
 have hg60 : (S0 n1).length ≤ 60 := (by have h9 := (J2 hg1).1; unfold S0; rw [G8]; omega)
 have hgP : GP (netP p (U9 n1)) := g9 hgp hgl (show n1.Homes = p.Net.Homes from hh1)
 refine R4 ?_
 refine E5 [3, 3] rfl rfl rfl rfl Tryz.call26 rfl (AD4 p pv pw hs) (A1 (A0 rfl) A3) rfl ?_
 intro x26 ok26
 refine R1 ?_
 intro b6
 refine R5 ?_
 refine A2 rfl (B3 rfl Tryz.call86 rfl (Am6 n1 hg1) (A1 (A0 rfl) A3)) ?_
 refine R5 ?_
 intro b7
 refine R8 ?_
 refine S1 1 rfl rfl rfl (A0 rfl) (A0 rfl) (F2 _) rfl B1 rfl ?_
 refine R7 ?_
 refine AWP.le (C7 [1, 3, 3, 1, 1] rfl) ?_
 refine d7 [(2, _), (3, _), (6, _), (8, _)] _ (fun (i : Nat) (q : TPoll) (v : Value) (w : Value) => i ≤ (S0 n1).length ∧ (GP q ∧ q.Net.Homes = n1.Homes) ∧ (S0 n1).foldl O2 (netP p (U9 n1)) = ((S0 n1).drop i).foldl O2 q) (fun (i : Nat) (q : TPoll) (v : Value) (w : Value) => [.box b6 31 (pollC q v w), .arr v 40 5 (q.Voters.map A5.cs), .arr w 56 2 (q.Won.map G3.cs)]) (fun (i : Nat) (q : TPoll) (v : Value) (w : Value) => [(10, AV.int i)]) (fun (i : Nat) (q : TPoll) (v : Value) (w : Value) => (S0 n1).length - i) (0) ((netP p (U9 n1))) (x26.1) (x26.2) ?_ (N7 B6 ⟨rfl, rfl, rfl, rfl, rfl, trivial⟩) ?_
 ·exact ⟨Nat.zero_le _, ⟨hgP, rfl⟩, rfl⟩
 intro i q v w hinv
 refine R8 ?_
 refine A6 (A0 rfl) ?_ ?_
 ·intro h38
  have k38 := of_decide_eq_true h38; try simp only [A4] at k38
  have hlt : i < (S0 n1).length := qz64
  obtain ⟨l, hx⟩ := F8 hlt
  have hl1 := Ad1 hg1 (D9 hx)
  have hlq : isLetN q.Net l = true := (by rw [f6 hinv.2.1.2]; exact hl1)
  refine R3 ?_
  refine H1 5 qz8 qz8 rfl ?_
  refine R3 ?_
  refine B8 rfl rfl (H3 rfl A9 E2 (A0 rfl) (A0 rfl) hx qz3) ?_
  refine R2 ?_
  refine E5 [1, 1] rfl rfl rfl rfl Tryz.call87 rfl (Ax2 q v w l hinv.2.1.1 hlq) (A1 (A0 rfl) (A1 (A0 rfl) A3)) rfl ?_
  intro x46 ok46
  refine R7 ?_
  refine Q6 i q v w (i + 1) (O2 q l) (x46.1) (x46.2) ?_ ?_ (Le.trans (C7 [2, 0, 0] rfl) (N7 B6 ⟨rfl, rfl, rfl, rfl, rfl, trivial⟩))
  ·exact ⟨by omega, ⟨(Ad2 (ty := tyI) AG4 hinv.2.1.1 hlq).1, (Ad2 (ty := tyI) AG4 hinv.2.1.1 hlq).2.2.trans hinv.2.1.2⟩, Ah2 hx hinv.2.2⟩
  omega
 intro h38
 have k38 := of_decide_eq_false h38; try simp only [A4] at k38
 have hfin : (S0 n1).foldl O2 (netP p (U9 n1)) = q := (by rw [hinv.2.2, List.drop_eq_nil_of_le qz64]; rfl)
 rw [hfin]
 refine R8 ?_
 exact F1 [3, 3, 1, 1] (v, w) (trivial) rfl B6 (L7 rfl D1 (B2 (C3 (ys := _) 7 rfl rfl C8 C0 rfl) (B2 (A8 rfl B6) E3)))
theorem AR8 (p : TPoll) (pv pw : Value) (n : D5) (ok : Bool) (hs : PSz p) : F0 Tryz.prog 57 [AV.agg (pollC p pv pw), AV.agg n.cs, AV.bool ok] [.arr pv 40 5 (p.Voters.map A5.cs), .arr pw 56 2 (p.Won.map G3.cs)] (fun _ : Value × Value => True) (fun x => [.arr pv 40 5 (p.Voters.map A5.cs), .arr pw 56 2 (p.Won.map G3.cs), .arr x.1 40 5 (((if ok = true then netP p n else X2)).Voters.map A5.cs), .arr x.2 56 2 (((if ok = true then netP p n else X2)).Won.map G3.cs)]) (fun x => AV.tup [AV.agg (pollC (if ok = true then netP p n else X2) x.1 x.2), AV.bool ok]) := by
 refine E1 Tryz.func57 rfl Tryz.ntmps57 rfl ?_
 refine R3 ?_
 intro b3
 refine R1 ?_
 intro b4
 refine R1 ?_
 intro b6
 refine R8 ?_
 refine A6 (A0 rfl) ?_ ?_
 ·intro h10
  have hok : ok = false := (by simpa using h10)
  subst hok
  rw [if_neg Bool.false_ne_true]
  refine R7 ?_
  refine J3 0 2 1 rfl rfl (K9 3 rfl rfl (K9 4 rfl rfl M7)) ?_
  refine J3 0 4 4 rfl rfl (K9 3 rfl rfl (K9 4 rfl rfl M7)) ?_
  refine K8 40 5 ?_
  refine K8 56 2 ?_
  exact F1 [5, 5, 1, 0] ((Value.slice none 0 0), (Value.slice none 0 0)) (trivial) rfl B6 (L7 rfl D1 (B2 (C3 (ys := _) 2 rfl rfl C8 C0 rfl) (B2 (A8 rfl B6) E3)))
 intro h10
 have hok : ok = true := (by simpa using h10)
 subst hok
 rw [if_pos rfl]
 refine R4 ?_
 refine E5 [3, 3] rfl rfl rfl rfl Tryz.call26 rfl (AD4 p pv pw hs) (A1 (A0 rfl) A3) rfl ?_
 intro x13 ok13
 refine R1 ?_
 intro b8
 refine R6 ?_
 refine S1 0 rfl rfl rfl (A0 rfl) (A0 rfl) (F2 _) rfl B1 rfl ?_
 refine R8 ?_
 exact F1 [1, 1, 1, 1] (x13.1, x13.2) (trivial) rfl B6 (L7 rfl D1 (B2 (C3 (ys := _) 5 rfl rfl C8 C0 rfl) (B2 (A8 rfl B6) E3)))
theorem Ao4 (p : TPoll) (pv pw : Value) (a : F7) (hs : PSz p) : F0 Tryz.prog 27 [AV.agg (pollC p pv pw), AV.agg a.cs] [.arr pv 40 5 (p.Voters.map A5.cs), .arr pw 56 2 (p.Won.map G3.cs)] (fun _ : Value × Value => True) (fun x => [.arr pv 40 5 (p.Voters.map A5.cs), .arr pw 56 2 (p.Won.map G3.cs), .arr x.1 40 5 ((doSP p a).1.Voters.map A5.cs), .arr x.2 56 2 ((doSP p a).1.Won.map G3.cs)]) (fun x => AV.tup [AV.agg (pollC (doSP p a).1 x.1 x.2), AV.bool (doSP p a).2]) := by
 have hns : p.Net.size ≤ 1048576 := Nat.le_trans hs.net D1
 refine E1 Tryz.func27 rfl Tryz.ntmps27 rfl ?_
 refine R3 ?_
 intro b2
 refine R1 ?_
 intro b3
 refine R1 ?_
 intro b4
 refine R14 ?_
 refine A6 (A0 rfl) ?_ ?_
 ·intro h14
  have k14 := G2 h14; try simp only [A4] at k14
  rw [AR7 (show doI p a = P8 taI p a.Who by unfold doI doP; rw [if_pos k14]) Ax1]
  refine R5 ?_
  refine E5 [3, 3] rfl rfl rfl rfl Tryz.call53 rfl (Ao3 p pv pw a.Who hs) (A1 (A0 rfl) (A1 (A0 rfl) A3)) rfl ?_
  intro x19 ok19
  refine R6 ?_
  exact F1 [0, 0, 0, 0] (x19.1, x19.2) (trivial) rfl B6 (L7 rfl D1 (B2 (C3 (ys := _) 4 rfl rfl C8 C0 rfl) (B2 (A8 rfl B6) E3)))
 intro h14
 have k14 := G1 h14; try simp only [A4] at k14
 refine R5 ?_
 refine A6 (A0 rfl) ?_ ?_
 ·intro h22
  have k22 := G2 h22; try simp only [A4] at k22
  rw [AR7 (show doI p a = S9 p a.Who by unfold doI doP; rw [if_neg k14, if_pos k22]) BC3]
  refine R5 ?_
  refine E5 [3, 3] rfl rfl rfl rfl Tryz.call54 rfl (Ae4 p pv pw a.Who hs) (A1 (A0 rfl) (A1 (A0 rfl) A3)) rfl ?_
  intro x27 ok27
  refine R6 ?_
  exact F1 [0, 0, 0, 0] (x27.1, x27.2) (trivial) rfl B6 (L7 rfl D1 (B2 (C3 (ys := _) 4 rfl rfl C8 C0 rfl) (B2 (A8 rfl B6) E3)))
 intro h22
 have k22 := G1 h22; try simp only [A4] at k22
 refine R5 ?_
 refine A6 (A0 rfl) ?_ ?_
 ·intro h30
  have k30 := G2 h30; try simp only [A4] at k30
  rw [AR7 (show doI p a = V0 p by unfold doI doP; rw [if_neg k14, if_neg k22, if_pos k30]) BC4]
  refine R3 ?_
  refine E5 [3, 3] rfl rfl rfl rfl Tryz.call55 rfl (Aj0 p pv pw hs) (A1 (A0 rfl) A3) rfl ?_
  intro x33 ok33
  refine R6 ?_
  exact F1 [0, 0, 0, 0] (x33.1, x33.2) (trivial) rfl B6 (L7 rfl D1 (B2 (C3 (ys := _) 4 rfl rfl C8 C0 rfl) (B2 (A8 rfl B6) E3)))
 intro h30
 have k30 := G1 h30; try simp only [A4] at k30
 refine R5 ?_
 refine A6 (A0 rfl) ?_ ?_
 ·intro h36
  have k36 := G2 h36; try simp only [A4] at k36
  rw [AO1 (show doI p a = W0 p (Z0 p.Net a.Who) by unfold doI doP; rw [if_neg k14, if_neg k22, if_neg k30, if_pos k36])]
  refine R3 ?_
  refine A2 rfl (O4 _ 2 rfl (A0 rfl) rfl C2 B1 rfl rfl) ?_
  refine R2 ?_
  refine A2 rfl (B3 rfl Tryz.call56 rfl (Ai3 p.Net a.Who hns) (A1 (A0 rfl) (A1 (A0 rfl) A3))) ?_
  refine R4 ?_
  intro b6
  refine R8 ?_
  refine E5 [4, 4] rfl rfl rfl rfl Tryz.call57 rfl (AR8 p pv pw (Z0 p.Net a.Who).1 (Z0 p.Net a.Who).2 hs) (A1 (A0 rfl) (A1 (A0 rfl) (A1 (A0 rfl) A3))) rfl ?_
  intro x49 ok49
  refine R6 ?_
  exact F1 [0, 0, 0, 0] (x49.1, x49.2) (trivial) rfl B6 (L7 rfl D1 (B2 (C3 (ys := _) 5 rfl rfl C8 C0 rfl) (B2 (A8 rfl B6) E3)))
 intro h36
 have k36 := G1 h36; try simp only [A4] at k36
 refine R5 ?_
 refine A6 (A0 rfl) ?_ ?_
 ·intro h52
  have k52 := G2 h52; try simp only [A4] at k52
  rw [AO1 (show doI p a = W0 p (S8 p.Net a.Who) by unfold doI doP; rw [if_neg k14, if_neg k22, if_neg k30, if_neg k36, if_pos k52])]
  refine R3 ?_
  refine A2 rfl (O4 _ 2 rfl (A0 rfl) rfl C2 B1 rfl rfl) ?_
  refine R2 ?_
  refine A2 rfl (B3 rfl Tryz.call58 rfl (Aa3 p.Net a.Who hns) (A1 (A0 rfl) (A1 (A0 rfl) A3))) ?_
  refine R4 ?_
  intro b8
  refine R8 ?_
  refine E5 [4, 4] rfl rfl rfl rfl Tryz.call57 rfl (AR8 p pv pw (S8 p.Net a.Who).1 (S8 p.Net a.Who).2 hs) (A1 (A0 rfl) (A1 (A0 rfl) (A1 (A0 rfl) A3))) rfl ?_
  intro x65 ok65
  refine R6 ?_
  exact F1 [0, 0, 0, 0] (x65.1, x65.2) (trivial) rfl B6 (L7 rfl D1 (B2 (C3 (ys := _) 5 rfl rfl C8 C0 rfl) (B2 (A8 rfl B6) E3)))
 intro h52
 have k52 := G1 h52; try simp only [A4] at k52
 refine R5 ?_
 refine A6 (A0 rfl) ?_ ?_
 ·intro h68
  have k68 := G2 h68; try simp only [A4] at k68
  rw [AO1 (show doI p a = W0 p (V5 p.Net a.Who a.By) by unfold doI doP; rw [if_neg k14, if_neg k22, if_neg k30, if_neg k36, if_neg k52, if_pos k68])]
  refine R3 ?_
  refine A2 rfl (O4 _ 2 rfl (A0 rfl) rfl C2 B1 rfl rfl) ?_
  refine R4 ?_
  refine A2 rfl (B3 rfl Tryz.call59 rfl (Ad9 p.Net a.Who a.By hns) (A1 (A0 rfl) (A1 (A0 rfl) (A1 (A0 rfl) A3)))) ?_
  refine R4 ?_
  intro b10
  refine R8 ?_
  refine E5 [4, 4] rfl rfl rfl rfl Tryz.call57 rfl (AR8 p pv pw (V5 p.Net a.Who a.By).1 (V5 p.Net a.Who a.By).2 hs) (A1 (A0 rfl) (A1 (A0 rfl) (A1 (A0 rfl) A3))) rfl ?_
  intro x83 ok83
  refine R6 ?_
  exact F1 [0, 0, 0, 0] (x83.1, x83.2) (trivial) rfl B6 (L7 rfl D1 (B2 (C3 (ys := _) 5 rfl rfl C8 C0 rfl) (B2 (A8 rfl B6) E3)))
 intro h68
 have k68 := G1 h68; try simp only [A4] at k68
 rw [AO1 (show doI p a = W0 p (T3, false) by unfold doI doP; rw [if_neg k14, if_neg k22, if_neg k30, if_neg k36, if_neg k52, if_neg k68])]
 refine R8 ?_
 refine J3 0 2 1 rfl rfl (K9 3 rfl rfl (K9 4 rfl rfl M7)) ?_
 refine J3 0 4 4 rfl rfl (K9 3 rfl rfl (K9 4 rfl rfl M7)) ?_
 refine K8 40 5 ?_
 refine K8 56 2 ?_
 exact F1 [5, 5, 1, 0] ((Value.slice none 0 0), (Value.slice none 0 0)) (trivial) rfl B6 (L7 rfl D1 (B2 (C3 (ys := _) 2 rfl rfl C8 C0 rfl) (B2 (A8 rfl B6) E3)))
theorem Ae5 (p : TPoll) (hs : PSz p) : D3 Tryz.prog 6 [AV.agg p.cs] (AV.bool (goodPoll p)) := by
  refine C6 Tryz.func6 rfl Tryz.ntmps6 rfl ?_
  refine R3 ?_
  intro b1
  refine R5 ?_
  refine A2 rfl (B3 rfl Tryz.call16 rfl (AB2 p hs) (A1 (A0 rfl) A3)) ?_
  refine R3 ?_
  exact H5 rfl (A8 rfl B6)
theorem AC4 (p : TPoll) (acts : List F7) (g : GP p) (hl : acts.length ≤ 200) : F0 Tryz.prog 9 [AV.agg p.cs, AV.list 3 (acts.map F7.cs)] [] (fun _ : Value × Value => True) (fun x => [.arr x.1 40 5 ((acts.foldl H9 p).Voters.map A5.cs), .arr x.2 56 2 ((acts.foldl H9 p).Won.map G3.cs)]) (fun x => AV.tup [AV.agg (pollC (acts.foldl H9 p) x.1 x.2), AV.bool true]) := by
 have hs := V8 g
 refine E1 Tryz.func9 rfl Tryz.ntmps9 rfl ?_
 refine R3 ?_
 intro b2
 refine R1 ?_
 intro b4
 refine R6 ?_
 refine A2 rfl (B3 rfl Tryz.call16 rfl (AB2 p hs) (A1 (A0 rfl) A3)) ?_
 refine R7 ?_
 refine A6 (A0 rfl) ?_ ?_
 ·intro h17
  exfalso; rw [U1.2 g, A4] at h17; simp at h17; omega
 intro h17
 refine R4 ?_
 refine E5 [] rfl rfl rfl rfl Tryz.call26 rfl (BC2 p hs) (A1 (A0 rfl) A3) rfl ?_
 intro x20 ok20
 refine R1 ?_
 intro b6
 refine R8 ?_
 refine AWP.le (C7 [0, 0, 0] rfl) ?_
 refine d7 [(1, _), (4, _), (5, _), (6, _)] _ (fun (i : Nat) (q : TPoll) (v : Value) (w : Value) => i ≤ acts.length ∧ GP q ∧ acts.foldl H9 p = (acts.drop i).foldl H9 q) (fun (i : Nat) (q : TPoll) (v : Value) (w : Value) => [.box b6 31 (pollC q v w), .arr v 40 5 (q.Voters.map A5.cs), .arr w 56 2 (q.Won.map G3.cs)]) (fun (i : Nat) (q : TPoll) (v : Value) (w : Value) => [(7, AV.int i)]) (fun (i : Nat) (q : TPoll) (v : Value) (w : Value) => acts.length - i) (0) (p) (x20.1) (x20.2) ?_ (N7 B6 ⟨rfl, rfl, rfl, rfl, rfl, trivial⟩) ?_
 ·exact ⟨Nat.zero_le _, g, rfl⟩
 intro i q v w hinv
 refine R8 ?_
 refine A6 (A0 rfl) ?_ ?_
 ·intro h24
  have k24 := of_decide_eq_true h24; try simp only [A4] at k24
  have hlt : i < acts.length := (by simp only [A4] at h24; simpa using h24)
  obtain ⟨a, hx⟩ := F8 hlt
  have hnx : acts.foldl H9 p = (acts.drop (i + 1)).foldl H9 (H9 q a) := (by rw [hinv.2.2, drop_some hx]; rfl)
  refine R4 ?_
  refine K7 _ 11 (.pure 0 (.pure 1 (.pure 2 (.pure 3 (.pure 4 (.e2 5 (.pure 6 (.pure 7 (.pure 8 (.e1 9 (.e1 10 .nil))))) 9 (.e1 5 (.pure 6 (.pure 7 (.pure 8 (.e1 10 .nil))))))))))) qz8 qz8 rfl (U0 1) ?_
  refine R3 ?_
  refine M6 rfl rfl rfl (fun ext => H3 rfl N5 f9 (A0 rfl) (A0 rfl) hx qz3) ?_
  refine R1 ?_
  refine Y8 ?_ ?_
  ·refine C4 rfl rfl rfl (E6 [1, 1] rfl Tryz.call27 rfl (Ao4 q v w a (V8 hinv.2.1)) (A1 (A0 rfl) (A1 (A0 rfl) A3)) rfl) (fun a _ => qz2) ?_
   intro x33 ok33
   refine R4 ?_
   refine C4 rfl rfl rfl (G4 rfl Tryz.zeroValue31 rfl) (fun a _ => qz2) ?_
   intro b8 _
   refine R1 ?_
   refine Y4 rfl rfl rfl (N4 7 rfl rfl (A0 rfl) (A0 rfl) (F2 _) rfl C0 rfl) (fun a _ => qz2) ?_
   intro _ _
   refine R7 ?_
   refine A6 (A0 rfl) ?_ ?_
   ·intro h36
    have hst : H9 q a = (doSP q a).1 := ((AO2 q a).trans (if_pos h36))
    have hfin : acts.foldl H9 p = (acts.drop (i + 1)).foldl H9 (doSP q a).1 := (by rw [hnx, hst])
    refine R9 ?_
    refine Q6 i q v w (i + 1) ((doSP q a).1) (x33.1) (x33.2) ?_ ?_ (Le.trans (C7 [3, 3, 5, 0, 2, 2] rfl) (E8 3 B6 ⟨rfl, rfl, rfl, rfl, rfl, trivial⟩))
    ·exact ⟨by omega, by have h9 := (AF6 (ta := taI) (ty := tyI) AG4 hinv.2.1 a).1; rw [show AI9 rdN taI tyI q a = (doSP q a).1 from hst] at h9; exact h9, hfin⟩
    omega
   intro h36
   have hst : H9 q a = q := ((AO2 q a).trans (if_neg (by rw [h36]; exact Bool.false_ne_true)))
   have hfin : acts.foldl H9 p = (acts.drop (i + 1)).foldl H9 q := (by rw [hnx, hst])
   refine R6 ?_
   refine Q6 i q v w (i + 1) (q) (v) (w) ?_ ?_ (Le.trans (C7 [5, 5, 5, 0, 2, 2] rfl) (E8 3 B6 ⟨rfl, rfl, rfl, rfl, rfl, trivial⟩))
   ·exact ⟨by omega, hinv.2.1, hfin⟩
   omega
  refine C4 rfl rfl rfl (G4 rfl Tryz.zeroValue31 rfl) (fun a _ => qz2) ?_
  intro b8 _
  refine R1 ?_
  refine C4 rfl rfl rfl (E6 [1, 1] rfl Tryz.call27 rfl (Ao4 q v w a (V8 hinv.2.1)) (A1 (A0 rfl) (A1 (A0 rfl) A3)) rfl) (fun a _ => qz2) ?_
  intro x33 ok33
  refine R4 ?_
  refine Y4 rfl rfl rfl (N4 3 rfl rfl (A0 rfl) (A0 rfl) (F2 _) rfl C0 rfl) (fun a _ => qz2) ?_
  intro _ _
  refine R7 ?_
  refine A6 (A0 rfl) ?_ ?_
  ·intro h36
   have hst : H9 q a = (doSP q a).1 := ((AO2 q a).trans (if_pos h36))
   have hfin : acts.foldl H9 p = (acts.drop (i + 1)).foldl H9 (doSP q a).1 := (by rw [hnx, hst])
   refine R9 ?_
   refine Q6 i q v w (i + 1) ((doSP q a).1) (x33.1) (x33.2) ?_ ?_ (Le.trans (C7 [3, 3, 3, 0, 2, 2] rfl) (E8 3 B6 ⟨rfl, rfl, rfl, rfl, rfl, trivial⟩))
   ·exact ⟨by omega, by have h9 := (AF6 (ta := taI) (ty := tyI) AG4 hinv.2.1 a).1; rw [show AI9 rdN taI tyI q a = (doSP q a).1 from hst] at h9; exact h9, hfin⟩
   omega
  intro h36
  have hst : H9 q a = q := ((AO2 q a).trans (if_neg (by rw [h36]; exact Bool.false_ne_true)))
  have hfin : acts.foldl H9 p = (acts.drop (i + 1)).foldl H9 q := (by rw [hnx, hst])
  refine R6 ?_
  refine Q6 i q v w (i + 1) (q) (v) (w) ?_ ?_ (Le.trans (C7 [3, 5, 5, 0, 2, 2] rfl) (E8 3 B6 ⟨rfl, rfl, rfl, rfl, rfl, trivial⟩))
  ·exact ⟨by omega, hinv.2.1, hfin⟩
  omega
 intro h24
 have k24 := of_decide_eq_false h24; try simp only [A4] at k24
 have hfi : acts.foldl H9 p = q := (by rw [hinv.2.2, List.drop_eq_nil_of_le (by simp only [A4] at h24; simpa using h24)]; rfl)
 rw [hfi]
 refine R8 ?_
 exact F1 [1, 1] (v, w) (trivial) rfl B6 (L7 rfl D1 (B2 (C3 (ys := _) 3 rfl rfl C8 C0 rfl) (B2 (A8 rfl B6) E3)))
theorem Ae6 (p : TPoll) (acts : List F7) (g : GP p) (hl : acts.length ≤ 200) : D3 Tryz.prog 9 [AV.agg p.cs, AV.list 3 (acts.map F7.cs)] (AV.tup [AV.agg (acts.foldl H9 p).cs, AV.bool true]) := L8 (AC4 p acts g hl) fun x _ => AK2 (D8 (n8 List.mem_cons_self (List.mem_cons_of_mem _ List.mem_cons_self)) X5)
end Go.Proofs.YtkibefcceekmnaaGreatDoor
namespace Go.M
open Go.AV
structure L5 where
  p : Nat
  seed : Int
def AL4 (l : List Int) : AV := AV.list 1 (l.map fun x => [AV.ik .u8 x])
def Q4 (code : List Int) (c : L5) : List AV := [AL4 code, AV.int c.p, AV.ik .u64 c.seed]
def d6 (code : List Int) : Prop := ∀ x ∈ code, 0 ≤ x ∧ x ≤ 255
theorem byteL_of {l : List Int} (h : ∀ x ∈ l, (Lit.int .u8 x).wf = true) : d6 l := fun x hx => by
  have := h x hx
  simp only [Lit.wf, IntKind.min, IntKind.max, IntKind.signed, IntKind.bits] at this
  simp at this
  omega
theorem AT5 {x : Int} (h : 0 ≤ x ∧ x ≤ 255) : IntKind.i64.wrap x = x := AP6 qz6
theorem i6 (x : Int) : 0 ≤ bandI x 255 ∧ bandI x 255 ≤ 255 := by
  unfold bandI
  have h1 : (BitVec.ofInt IntKind.u64.bits x &&& BitVec.ofInt IntKind.u64.bits 255).toNat ≤ 255 := by
    rw [BitVec.toNat_and]
    exact Nat.le_trans Nat.and_le_right D1
  generalize (BitVec.ofInt IntKind.u64.bits x &&& BitVec.ofInt IntKind.u64.bits 255).toNat = n at h1
  unfold IntKind.wrap
  simp [IntKind.bits, IntKind.signed]
  omega
end Go.M
namespace Go.Proofs.YtkibefcceekmnaaGreatDoor
open Go Go.AV Go.M
attribute [local irreducible] OpW OpA OpS AWP D3 P2 F0 OpE RetOk K2 M3 Le Ev I4 Q8 Int.tmod IntKind.wrap bandI
theorem AV7 (b : Nat) (code : List Int) (hcode : d6 code) (c : L5) (hp : c.p ≤ 8000000) : F0 Tryz.prog 32 [AV.ptr b 0] [.box b 44 (Q4 code c)] (fun x : L5 × Int => x.1.p ≤ c.p + 1 ∧ 0 ≤ x.2 ∧ x.2 ≤ 255) (fun x => [.box b 44 (Q4 code x.1)]) (fun x => AV.int x.2) := by
 have hcb := hcode
 refine E1 Tryz.func32 rfl Tryz.ntmps32 rfl ?_
 refine R6 ?_
 try rw [AT5 hzb]
 refine R16 ?_
 refine A6 (A0 rfl) ?_ ?_
 ·intro h13
  have k13 := of_decide_eq_true h13; try simp only [A4] at k13
  obtain ⟨z, hz⟩ := F8 (show c.p < code.length by omega)
  have hzb := hcb z (D9 hz)
  refine R9 ?_
  refine B8 rfl rfl (H3 rfl Q3 Tryz.sizeOf5 (A0 rfl) (A0 rfl) hz rfl) ?_
  refine R1 ?_
  refine B8 rfl rfl (o7 rfl qz8 J8 (A0 rfl)) ?_
  try rw [AT5 hzb]
  refine R20 ?_
  refine A2 rfl (w_mul rfl (A0 rfl) D4) ?_
  refine R1 ?_
  refine A2 rfl (o7 rfl qz8 Tryz.underlying42 (A0 rfl)) ?_
  refine A2 rfl (AY3 rfl (A0 rfl) (A0 rfl)) ?_
  refine A2 rfl (AY3 rfl (A0 rfl) D4) ?_
  refine R18 ?_
  refine A6 (A0 rfl) ?_ ?_
  ·intro h53
   have k53 := of_decide_eq_true h53; try simp only [A4] at k53
   refine R6 ?_
   (refine F1 [0] ((⟨c.p + 1, _⟩, _)) ?_ rfl t6 (H4 rfl (A8 rfl W8)); first | exact ⟨Nat.le_refl _, hzb⟩ | exact ⟨Nat.le_refl _, Int.le_refl 0, (show (0 : Int) ≤ 255 by decide)⟩ | (rw [AT5 (i6 _)]; exact ⟨Nat.le_refl _, i6 _⟩))
  intro h53
  have k53 := of_decide_eq_false h53; try simp only [A4] at k53
  refine R7 ?_
  refine A2 rfl (w_shr rfl (A0 rfl) D4 D1 D1) ?_
  refine A2 rfl (w_band rfl (A0 rfl) D4) ?_
  refine A2 rfl (o7 rfl qz8 J8 (A0 rfl)) ?_
  refine R3 ?_
  (refine F1 [0] ((⟨c.p + 1, _⟩, _)) ?_ rfl t6 (H4 rfl (A8 rfl W8)); first | exact ⟨Nat.le_refl _, hzb⟩ | exact ⟨Nat.le_refl _, Int.le_refl 0, (show (0 : Int) ≤ 255 by decide)⟩ | (rw [AT5 (i6 _)]; exact ⟨Nat.le_refl _, i6 _⟩))
 intro h13
 have k13 := of_decide_eq_false h13; try simp only [A4] at k13
 refine R19 ?_
 refine A2 rfl (w_mul rfl (A0 rfl) D4) ?_
 refine R1 ?_
 refine A2 rfl (o7 rfl qz8 Tryz.underlying42 (A0 rfl)) ?_
 refine A2 rfl (AY3 rfl (A0 rfl) (A0 rfl)) ?_
 refine A2 rfl (AY3 rfl (A0 rfl) D4) ?_
 refine R18 ?_
 refine A6 (A0 rfl) ?_ ?_
 ·intro h53
  have k53 := of_decide_eq_true h53; try simp only [A4] at k53
  refine R6 ?_
  (refine F1 [0] ((⟨c.p + 1, _⟩, _)) ?_ rfl t6 (H4 rfl (A8 rfl W8)); first | exact ⟨Nat.le_refl _, hzb⟩ | exact ⟨Nat.le_refl _, Int.le_refl 0, (show (0 : Int) ≤ 255 by decide)⟩ | (rw [AT5 (i6 _)]; exact ⟨Nat.le_refl _, i6 _⟩))
 intro h53
 have k53 := of_decide_eq_false h53; try simp only [A4] at k53
 refine R7 ?_
 refine A2 rfl (w_shr rfl (A0 rfl) D4 D1 D1) ?_
 refine A2 rfl (w_band rfl (A0 rfl) D4) ?_
 refine A2 rfl (o7 rfl qz8 J8 (A0 rfl)) ?_
 refine R3 ?_
 (refine F1 [0] ((⟨c.p + 1, _⟩, _)) ?_ rfl t6 (H4 rfl (A8 rfl W8)); first | exact ⟨Nat.le_refl _, hzb⟩ | exact ⟨Nat.le_refl _, Int.le_refl 0, (show (0 : Int) ≤ 255 by decide)⟩ | (rw [AT5 (i6 _)]; exact ⟨Nat.le_refl _, i6 _⟩))
theorem H0 (b : Nat) (code : List Int) (hcode : d6 code) (c : L5) (n : Int) (hn : n ≤ 1000000) (hp : c.p ≤ 7000000) : F0 Tryz.prog 14 [AV.ptr b 0, AV.int n] [.box b 44 (Q4 code c)] (fun x : L5 × Int => x.1.p ≤ c.p + 2 ∧ 0 ≤ x.2 ∧ (x.2 < n ∨ x.2 = 0)) (fun x => [.box b 44 (Q4 code x.1)]) (fun x => AV.int x.2) := by
 refine E1 Tryz.func14 rfl Tryz.ntmps14 rfl ?_
 refine R10 ?_
 refine A6 (A0 rfl) ?_ ?_
 ·intro h7
  have k7 := of_decide_eq_true h7; try simp only [A4] at k7
  refine R5 ?_
  (refine F1 [0] ((_, _)) ?_ rfl t6 (H4 rfl (A8 rfl W8)); (dsimp only; first | omega | exact ⟨by omega, Int.tmod_nonneg _ qz6, .inl (Int.tmod_lt_of_pos _ qz6)⟩))
 intro h7
 have k7 := of_decide_eq_false h7; try simp only [A4] at k7
 refine R4 ?_
 refine E5 [0] rfl rfl rfl rfl Tryz.call32 rfl (AV7 _ _ hcode _ qz6) (A1 (A0 rfl) A3) rfl ?_
 intro x9 ok9
 refine R8 ?_
 refine A6 (A0 rfl) ?_ ?_
 ·intro h11
  have k11 := of_decide_eq_true h11; try simp only [A4] at k11
  refine R2 ?_
  refine A2 rfl (u2 rfl (A0 rfl) D4 qz3) ?_
  refine R1 ?_
  refine E5 [0] rfl rfl rfl rfl Tryz.call32 rfl (AV7 _ _ hcode _ qz6) (A1 (A0 rfl) A3) rfl ?_
  intro x15 ok15
  refine R7 ?_
  refine A2 rfl (w_rem rfl (A0 rfl) (A0 rfl) qz6) ?_
  refine R3 ?_
  (refine F1 [0] ((_, _)) ?_ rfl t6 (H4 rfl (A8 rfl W8)); (dsimp only; first | omega | exact ⟨by omega, Int.tmod_nonneg _ qz6, .inl (Int.tmod_lt_of_pos _ qz6)⟩))
 intro h11
 have k11 := of_decide_eq_false h11; try simp only [A4] at k11
 refine R5 ?_
 refine A2 rfl (w_rem rfl (A0 rfl) (A0 rfl) qz6) ?_
 refine R3 ?_
 (refine F1 [0] ((_, _)) ?_ rfl t6 (H4 rfl (A8 rfl W8)); (dsimp only; first | omega | exact ⟨by omega, Int.tmod_nonneg _ qz6, .inl (Int.tmod_lt_of_pos _ qz6)⟩))
theorem v7 (b : Nat) (code : List Int) (hcode : d6 code) (c : L5) (n : Int) (hn : n ≤ 1000000) (hp : c.p ≤ 7000000) : F0 Tryz.prog 13 [AV.ptr b 0, AV.int n] [.box b 44 (Q4 code c)] (fun x : L5 × Bool => x.1.p ≤ c.p + 2) (fun x => [.box b 44 (Q4 code x.1)]) (fun x => AV.bool x.2) := by
  refine E1 Tryz.func13 rfl Tryz.ntmps13 rfl ?_
  refine R8 ?_
  refine E5 [0] rfl rfl rfl rfl Tryz.call14 rfl (H0 _ _ hcode _ _ qz6 qz6) (A1 (A0 rfl) (A1 (A0 rfl) A3)) rfl ?_
  intro x7 ok7
  refine R4 ?_
  (refine F1 [0] ((_, _)) ?_ rfl t6 (H4 rfl (A8 rfl B6)); exact ok7.1)
theorem AI6 (b : Nat) (code : List Int) (hcode : d6 code) (c : L5) (l : List Str) (hl : (∀ s ∈ l, s.length ≤ 64) ∧ 1 ≤ l.length ∧ l.length ≤ 1000) (hp : c.p ≤ 7000000) : F0 Tryz.prog 94 [AV.ptr b 0, strs l] [.box b 44 (Q4 code c)] (fun x : L5 × Str => x.1.p ≤ c.p + 2 ∧ x.2.length ≤ 64) (fun x => [.box b 44 (Q4 code x.1)]) (fun x => AV.str x.2) := by
  obtain ⟨hls, hl1, hl2⟩ := hl
  refine E1 Tryz.func94 rfl Tryz.ntmps94 rfl ?_
  refine R2 ?_
  refine A2 rfl (P1 rfl (W5 (l := []) rfl)) ?_
  refine R7 ?_
  refine E5 [0] rfl rfl rfl rfl Tryz.call14 rfl (H0 _ _ hcode _ _ X8 qz6) (A1 (A0 rfl) (A1 (A0 rfl) A3)) rfl ?_
  intro x9 ok9
  simp only [A4] at ok9
  obtain ⟨y, hy⟩ := F8 (show x9.2.toNat < l.length by omega)
  refine A2 rfl (H3 rfl Tryz.underlying109 Tryz.sizeOf9 (A0 rfl) (A0 rfl) hy qz6) ?_
  refine R4 ?_
  (refine F1 [0] ((_, _)) ?_ rfl t6 (H4 rfl (A8 rfl B6)); exact ⟨ok9.1, hls _ (D9 hy)⟩)
theorem J4 (b : Nat) (code : List Int) (hcode : d6 code) (c : L5) (l : List Int) (hl : 1 ≤ l.length ∧ l.length ≤ 1000) (hp : c.p ≤ 7000000) : F0 Tryz.prog 15 [AV.ptr b 0, ints l] [.box b 44 (Q4 code c)] (fun x : L5 × Int => x.1.p ≤ c.p + 2 ∧ x.2 ∈ l) (fun x => [.box b 44 (Q4 code x.1)]) (fun x => AV.int x.2) := by
  obtain ⟨hl1, hl2⟩ := hl
  refine E1 Tryz.func15 rfl Tryz.ntmps15 rfl ?_
  refine R10 ?_
  refine E5 [0] rfl rfl rfl rfl Tryz.call14 rfl (H0 _ _ hcode _ _ X8 qz6) (A1 (A0 rfl) (A1 (A0 rfl) A3)) rfl ?_
  intro x9 ok9
  simp only [A4] at ok9
  obtain ⟨y, hy⟩ := F8 (show x9.2.toNat < l.length by omega)
  refine A2 rfl (H3 rfl B5 D0 (A0 rfl) (A0 rfl) hy qz6) ?_
  refine R4 ?_
  (refine F1 [0] ((_, _)) ?_ rfl t6 (H4 rfl (A8 rfl B6)); exact ⟨ok9.1, D9 hy⟩)
end Go.Proofs.YtkibefcceekmnaaGreatDoor
namespace Go.M
end Go.M
namespace Go.Proofs.YtkibefcceekmnaaGreatDoor
open Go Go.AV Go.M
attribute [local irreducible] OpW OpA OpS AWP D3 P2 RetOk M3 Le Ev I4
end Go.Proofs.YtkibefcceekmnaaGreatDoor
namespace Go.Proofs.YtkibefcceekmnaaGreatDoor
open Go Go.AV Go.M
attribute [local irreducible] OpW OpA OpS AWP D3 P2 F0 OpE RetOk K2 M3 Le Ev I4 Q8
end Go.Proofs.YtkibefcceekmnaaGreatDoor
namespace Go.Proofs.YtkibefcceekmnaaGreatDoor
open Go Go.AV Go.M
attribute [local irreducible] OpW OpA OpS AWP D3 P2 F0 OpE RetOk K2 M3 Le Ev I4
end Go.Proofs.YtkibefcceekmnaaGreatDoor
namespace Go.Proofs.YtkibefcceekmnaaGreatDoor
open Go Go.AV Go.M
attribute [local irreducible] OpW OpA OpS AWP D3 P2 F0 OpE RetOk K2 M3 Le Ev I4 Q8
end Go.Proofs.YtkibefcceekmnaaGreatDoor
namespace Go.Proofs.YtkibefcceekmnaaGreatDoor
open Go Go.AV Go.M
attribute [local irreducible] OpW OpA OpS AWP D3 P2 F0 OpE RetOk K2 M3 Le Ev I4 Q8 Int.tmod IntKind.wrap bandI
end Go.Proofs.YtkibefcceekmnaaGreatDoor
namespace Go.M
open Go.AV
def newN (h : List Int) (far : Int) : D5 × Bool := if goodNet ⟨0, h, far, []⟩ = true then (⟨0, h, far, []⟩, true) else (T3, false)
theorem Ah3 {h : List Int} {far : Int} (h1 : 1 ≤ h.length ∧ h.length ≤ 5) (h2 : ∀ x ∈ h, 0 ≤ x ∧ x ≤ 2) (h3 : 0 ≤ far ∧ far ≤ 20) : goodNet ⟨0, h, far, []⟩ = true := by
  have e1 : within (0 : Int) 0 100000 = true := by decide
  have e2 : p7 h far = true := by
    unfold p7
    rw [Bool.and_eq_true, Bool.and_eq_true]
    refine ⟨⟨K4.2 qz6, List.all_eq_true.2 fun x hx => K4.2 (h2 x hx)⟩, K4.2 h3⟩
  unfold goodNet
  rw [e1, e2]
  rfl
theorem Au2 {h : List Int} {far : Int} (hg : goodNet ⟨0, h, far, []⟩ = true) : newN h far = (⟨0, h, far, []⟩, true) := if_pos hg
def Ao9 : A5 := ⟨true, 0, -1, [], false⟩
def w9 (h : List Int) (far : Int) : TPoll := ⟨List.replicate h.length Ao9, ⟨0, h, far, []⟩, []⟩
theorem AD5 {h : List Int} {far : Int} (hg : goodNet ⟨0, h, far, []⟩ = true) (hn : h.length = 3 ∨ h.length = 5) : GP (w9 h far) := by
  refine U1.1 ?_
  unfold goodPoll
  have e1 : votersOk (h.length : Int) (List.replicate h.length Ao9) 0 = true := by
    refine AF4.2 fun i x hx => ?_
    have h9 := D9 hx
    rw [(List.mem_replicate.1 h9).2]
    refine K3.2 ⟨⟨by decide, by decide⟩, ⟨by decide, ?_⟩, AQ7 _, .inr rfl, fun h8 => by cases h8⟩
    show (-1 : Int) ≤ _
    omega
  show ((((goodNet ⟨0, h, far, []⟩ && _) && _) && _) && _) = true
  rw [hg]
  simp only [w9, e1, List.length_replicate]
  rcases hn with hn | hn <;> (rw [hn]; rfl)
end Go.M
namespace Go.Proofs.YtkibefcceekmnaaGreatDoor
open Go Go.AV Go.M
attribute [local irreducible] OpW OpA OpS AWP D3 P2 F0 OpE RetOk K2 M3 Le Ev I4 Q8 Int.tmod Int.tdiv IntKind.wrap
theorem Aq7 (h : List Int) (far : Int) (hl : h.length ≤ 1000000) : D3 Tryz.prog 92 [ints h, AV.int far] (AV.tup [AV.agg (newN h far).1.cs, AV.bool (newN h far).2]) := by
 refine C6 Tryz.func92 rfl Tryz.ntmps92 rfl ?_
 refine R3 ?_
 intro b4
 refine R5 ?_
 refine A2 rfl (B3 rfl Tryz.call52 rfl (p6 h qz6) (A1 (A0 rfl) A3)) ?_
 refine R3 ?_
 intro b6
 refine R6 ?_
 refine A2 rfl (V7 rfl Tryz.call33 rfl (S5 ⟨0, h, far, []⟩ (by show h.length + 0 ≤ _; omega)) (M4 _) (F6 (f4 (A0 rfl) (W6 (D8 G5 (D8 G5 (D8 G5 (D8 Ac7 T1)))))) N3)) ?_
 refine R2 ?_
 refine A6 (A0 rfl) ?_ ?_
 ·intro h13
  rw [show newN h far = (T3, false) from if_neg (by simpa using h13)]
  refine R7 ?_
  refine G9 1 1 1 rfl rfl ?_
  refine G9 1 3 4 rfl rfl ?_
  exact O3 rfl D1 (B2 (C3 (ys := _) 1 rfl rfl C2 B1 rfl) (B2 (A8 rfl B6) E3))
 intro h13
 rw [Au2 (by simpa using h13)]
 refine R8 ?_
 refine G9 1 3 4 rfl rfl ?_
 exact O3 rfl D1 (B2 (C3 (ys := _) 1 rfl rfl C2 B1 rfl) (B2 (A8 rfl B6) E3))
theorem Aq8 (h : List Int) (far : Int) (hg : goodNet ⟨0, h, far, []⟩ = true) (hn : h.length = 3 ∨ h.length = 5) : F0 Tryz.prog 61 [ints h, AV.int far] [] (fun _ : Value × Value => True) (fun x => [.arr x.1 40 5 ((w9 h far).Voters.map A5.cs), .arr x.2 56 2 ((w9 h far).Won.map G3.cs)]) (fun x => AV.tup [AV.agg (pollC (w9 h far) x.1 x.2), AV.bool true]) := by
 refine E1 Tryz.func61 rfl Tryz.ntmps61 rfl ?_
 refine R3 ?_
 intro b4
 refine R6 ?_
 refine A2 rfl (B3 rfl Tryz.call92 rfl ((by have h9 := Aq7 h far qz6; rw [Au2 hg] at h9; exact h9)) (A1 (A0 rfl) (A1 (A0 rfl) A3))) ?_
 refine R4 ?_
 intro b6
 refine R19 ?_
 refine A6 (A0 rfl) ?_ ?_
 ·intro h27
  exfalso; simp only [A4] at h27; rcases hn with hn | hn <;> simp [hn] at h27
 intro h27
 refine R4 ?_
 refine P4 rfl rfl rfl rfl B0 B4 ?_
 intro v30
 refine P4 rfl rfl rfl rfl C5 J5 ?_
 intro v31
 refine O5 1 rfl fun one_v30 => ?_
 refine O5 0 rfl fun one_v31 => ?_
 refine A2 rfl (I3 (places := #[(0, 1), (1, 4), (5, 1)]) rfl E4 Tryz.zeroValue31 (fun w => by kernel_rfl) rfl (B7 (A0 rfl) (F2 _) (B7 (A0 rfl) (F4 one_v30) (B7 (A0 rfl) (F4 one_v31) I0))) rfl) ?_
 refine R1 ?_
 intro b8
 refine R8 ?_
 refine AWP.le (C7 [0, 1, 0] rfl) ?_
 refine S3 [(0, _), (4, _), (5, _), (8, _)] _ (fun (i : Nat) (v : Value) => i ≤ h.length) (fun (i : Nat) (v : Value) => [.box b8 31 (pollC (w9 h far) v v31), .arr v 40 5 ((List.replicate i Ao9).map A5.cs), .arr v31 56 2 []]) (fun (i : Nat) (v : Value) => [(9, AV.int i)]) (fun (i : Nat) (v : Value) => h.length - i) (0) (v30) ?_ (N7 B6 ⟨rfl, rfl, rfl, rfl, rfl, trivial⟩) ?_
 ·exact Nat.zero_le _
 intro i v hinv
 refine R8 ?_
 refine A6 (A0 rfl) ?_ ?_
 ·intro h36
  have k36 := of_decide_eq_true h36; try simp only [A4] at k36
  have hlt : i < h.length := (by simp only [A4] at h36; simpa using h36)
  refine R9 ?_
  refine N0 (by' := 56) 1 rfl rfl rfl rfl B0 Tryz.type40 rfl rfl rfl rfl rfl rfl (A0 rfl) (A0 rfl) rfl qz66 ?_
  intro v44_1
  refine R1 ?_
  refine O5 1 rfl fun one_v44_1 => ?_
  refine M2 0 rfl rfl rfl (A0 rfl) (A0 rfl) (F4 one_v44_1) rfl Tryz.sizeOf24 rfl ?_
  refine R6 ?_
  refine Q5 i v (i + 1) (v44_1) ?_ ?_ (Le.trans (C7 [0, 0, 0] rfl) (N7 (by (rw [List.replicate_succ', List.map_append]; rfl)) ⟨rfl, rfl, rfl, rfl, rfl, trivial⟩))
  ·exact qz6
  omega
 intro h36
 have k36 := of_decide_eq_false h36; try simp only [A4] at k36
 have hie : i = h.length := (by simp only [A4] at h36; have h9 : ¬ ((i : Int) < (h.length : Int)) := (by simpa using h36); omega)
 subst hie
 refine R8 ?_
 exact F1 [1, 1] (v, v31) (trivial) rfl B6 (L7 rfl D1 (B2 (C3 (ys := _) 4 rfl rfl C8 C0 rfl) (B2 (A8 rfl B6) E3)))
theorem Aa9 (b : Nat) (code : List Int) (hcode : d6 code) (c : L5) (most : Int) (hm : 0 ≤ most ∧ most ≤ 30) (hp : c.p ≤ 1000000) : F0 Tryz.prog 12 [AV.ptr b 0, AV.int most] [.box b 44 (Q4 code c)] (fun x : L5 × List F7 × Value => x.1.p ≤ c.p + 400 ∧ x.2.1.length ≤ 31) (fun x => [.box b 44 (Q4 code x.1), .arr x.2.2 51 3 (x.2.1.map F7.cs)]) (fun x => AV.is x.2.2) := by
 refine E1 Tryz.func12 rfl Tryz.ntmps12 rfl ?_
 refine R2 ?_
 refine A2 rfl (P1 rfl L6) ?_
 refine R3 ?_
 refine P4 rfl rfl rfl rfl N5 f9 ?_
 intro v8
 refine R7 ?_
 refine E5 [1] rfl rfl rfl rfl Tryz.call14 rfl (H0 _ _ hcode _ _ qz6 qz6) (A1 (A0 rfl) (A1 (A0 rfl) A3)) rfl ?_
 intro x12 ok12
 obtain ⟨n0, hn0⟩ : ∃ n0 : Nat, x12.2 = n0 := ⟨x12.2.toNat, by omega⟩
 refine R8 ?_
 refine AWP.le (C7 [0, 0] rfl) ?_
 refine d7 [(0, _), (4, _), (6, _)] _ (fun (i : Nat) (cc : L5) (l : List F7) (v : Value) => i ≤ n0 ∧ l.length = i ∧ cc.p ≤ c.p + 2 + 10 * i) (fun (i : Nat) (cc : L5) (l : List F7) (v : Value) => [.box b 44 (Q4 code cc), .arr v 51 3 (l.map F7.cs)]) (fun (i : Nat) (cc : L5) (l : List F7) (v : Value) => [(5, AV.is v), (7, AV.int i)]) (fun (i : Nat) (cc : L5) (l : List F7) (v : Value) => n0 - i) (0) (x12.1) ([]) (v8) ?_ (N7 B6 ⟨rfl, rfl, rfl, rfl, rfl, trivial⟩) ?_
 ·exact ⟨Nat.zero_le _, rfl, by omega⟩
 intro i cc l v hinv
 refine R7 ?_
 refine A6 (A0 rfl) ?_ ?_
 ·intro h15
  have k15 := of_decide_eq_true h15; try simp only [A4] at k15
  have hlt : i < n0 := by omega
  have hll := hinv.2.1
  refine R6 ?_
  refine A2 rfl (AW5 rfl B5 D0 Tryz.zeroValue3 rfl rfl rfl rfl (B7 D4 (M9 _ _) (B7 D4 (M9 _ _) (B7 D4 (M9 _ _) (B7 D4 (M9 _ _) (B7 D4 (M9 _ _) (B7 D4 (M9 _ _) (B7 D4 (M9 _ _) (B7 D4 (M9 _ _) (B7 D4 (M9 _ _) (B7 D4 (M9 _ _) I0)))))))))) rfl rfl) ?_
  refine E5 [0] rfl rfl rfl rfl Tryz.call15 rfl (J4 _ _ hcode _ ([(1), (1), (2), (3), (3), (3), (3), (4), (5), (6)] : List Int) D1 qz6) (A1 (A0 rfl) (A1 (A0 rfl) A3)) rfl ?_
  intro x21 ok21
  refine R1 ?_
  refine E5 [0] rfl rfl rfl rfl Tryz.call14 rfl (H0 _ _ hcode _ _ qz6 qz6) (A1 (A0 rfl) (A1 D4 A3)) rfl ?_
  intro x23 ok23
  refine R1 ?_
  refine E5 [0] rfl rfl rfl rfl Tryz.call14 rfl (H0 _ _ hcode _ _ qz6 qz6) (A1 (A0 rfl) (A1 D4 A3)) rfl ?_
  intro x25 ok25
  refine R3 ?_
  refine N0 (by' := 24) 1 rfl rfl rfl rfl N5 Tryz.type51 rfl rfl rfl rfl rfl rfl (A0 rfl) (A0 rfl) rfl o4 ?_
  intro v29_1
  refine R7 ?_
  refine Q6 i cc l v (i + 1) (x25.1) (l ++ [⟨x21.2, x23.2, 1 + x25.2⟩]) (v29_1) ?_ ?_ (Le.trans (C7 [0, 0] rfl) (N7 (by first | rfl | exact congrArg (fun z => [Own.box _ _ _, Own.arr _ 51 3 z]) (by rw [List.map_append]; rfl)) ⟨rfl, rfl, rfl, rfl, rfl, trivial⟩))
  ·exact ⟨by omega, by rw [H6, hinv.2.1]; rfl, by omega⟩
  omega
 intro h15
 have k15 := of_decide_eq_false h15; try simp only [A4] at k15
 refine R7 ?_
 (refine F1 [0, 0] ((cc, l, v)) ?_ rfl t6 (H4 rfl (A8 rfl B6)); exact ⟨show cc.p ≤ _ by omega, show l.length ≤ 31 by omega⟩)
theorem AV8 (b : Nat) (code : List Int) (hcode : d6 code) (c : L5) (most : Int) (hm : 0 ≤ most ∧ most ≤ 30) (hp : c.p ≤ 1000000) : F0 Tryz.prog 12 [AV.ptr b 0, AV.int most] [.box b 44 (Q4 code c)] (fun x : L5 × List F7 => x.1.p ≤ c.p + 400 ∧ x.2.length ≤ 31) (fun x => [.box b 44 (Q4 code x.1)]) (fun x => AV.list 3 (x.2.map F7.cs)) :=
  p5 (fun x => (x.1, x.2.1)) (fun x => [.arr x.2.2 51 3 (x.2.1.map F7.cs)]) (fun x => [.box b 44 (Q4 code x.1)]) (Aa9 b code hcode c most hm hp) (fun _ h => h) (fun x _ => I5 (List.mem_singleton.2 rfl) F5) (fun x _ => List.perm_append_comm (l₁ := [_])) (fun _ _ => K9 0 rfl rfl M7) (fun x _ => AK6 ⟨rfl, rfl, X5⟩ AQ3)
end Go.Proofs.YtkibefcceekmnaaGreatDoor
namespace Go.M
open Go.AV
theorem BC7 {l : List Int} {far : Int} (hn : 1 ≤ l.length ∧ l.length ≤ 5) (h2 : ∀ x ∈ l, 0 ≤ x ∧ x ≤ 2) (h3 : far ∈ [(0 : Int), 1, 3]) : goodNet ⟨0, l, far, []⟩ = true := by
  refine Ah3 hn h2 ?_
  simp only [List.mem_cons, List.mem_nil_iff, or_false] at h3
  omega
theorem AR9 : ∀ {l : List F7} {p : TPoll}, GP p → GP (l.foldl H9 p)
  | [], _, g => g
  | a :: l, _, g => AR9 (l := l) (AF6 (ta := taI) (ty := tyI) AG4 g a).1
theorem Ao5 {l : List Int} {x : Int} (h : ∀ y ∈ l, 0 ≤ y ∧ y ≤ 2) (hx : 0 ≤ x ∧ (x < 3 ∨ x = 0)) : ∀ y ∈ l ++ [x], 0 ≤ y ∧ y ≤ 2 := fun y hy => by
  rcases List.mem_append.1 hy with hy | hy
  · exact h y hy
  · rw [List.mem_singleton.1 hy]; omega
theorem AG6 {n : D5} {a b : Int} {s : Str} (h : (P3 n a b s).2 = true) : (P3 n a b s).1.Now = n.Now := by
  unfold P3 at h ⊢
  split
  · rename_i h1
    rw [if_pos h1] at h
    split
    · rfl
    · rename_i h2; rw [if_neg h2] at h; cases h
  · rename_i h1; rw [if_neg h1] at h; cases h
theorem AD6 {n : D5} (hg : goodNet n = true) (hn : n.Now ≤ 1000) : goodNet (tickN n).1 = true ∧ (tickN n).1.Now = n.Now + 1 := by
  have hc : (goodNet n && (n.Now != 100000)) = true := by
    rw [hg, Bool.true_and]
    exact bne_iff_ne.2 qz6
  have h2 : tickN n = ({ n with Now := n.Now + 1 }, true) := if_pos hc
  refine ⟨(AB9 (by rw [h2])).2.1, by rw [h2]⟩
end Go.M
namespace Go.Proofs.YtkibefcceekmnaaGreatDoor
open Go Go.AV Go.M
attribute [local irreducible] OpW OpA OpS AWP D3 P2 F0 OpE RetOk K2 M3 Le Ev I4 Q8 Int.tmod Int.tdiv IntKind.wrap
theorem Ao6 (h : List Int) (far : Int) (hg : goodNet ⟨0, h, far, []⟩ = true) (hn : h.length = 3 ∨ h.length = 5) : D3 Tryz.prog 61 [ints h, AV.int far] (AV.tup [AV.agg (w9 h far).cs, AV.bool true]) := L8 (Aq8 h far hg hn) fun x _ => AK2 (D8 (n8 List.mem_cons_self (List.mem_cons_of_mem _ List.mem_cons_self)) X5)
theorem Ax3 (b : Nat) (code : List Int) (hcode : d6 code) (c : L5) (most : Int) (hm : 0 ≤ most ∧ most ≤ 30) (hp : c.p ≤ 500000) : F0 Tryz.prog 30 [AV.ptr b 0, AV.int most] [.box b 44 (Q4 code c)] (fun x : L5 × TPoll × Value × Value => x.1.p ≤ c.p + 500 ∧ GP x.2.1) (fun x => [.box b 44 (Q4 code x.1), .arr x.2.2.1 40 5 (x.2.1.Voters.map A5.cs), .arr x.2.2.2 56 2 (x.2.1.Won.map G3.cs)]) (fun x => AV.agg (pollC x.2.1 x.2.2.1 x.2.2.2)) := by
 refine E1 Tryz.func30 rfl Tryz.ntmps30 rfl ?_
 refine R3 ?_
 intro b4
 refine R3 ?_
 refine P4 rfl rfl rfl rfl B5 D0 ?_
 intro v10
 refine R6 ?_
 refine E5 [2] rfl rfl rfl rfl Tryz.call15 rfl (J4 _ _ hcode _ ([(3), (3), (5)] : List Int) D1 qz6) (A1 (A0 rfl) (A1 (A0 rfl) A3)) rfl ?_
 intro x13 ok13
 obtain ⟨m0, hm0, hm5⟩ : ∃ n : Nat, x13.2 = (n : Int) ∧ (n = 3 ∨ n = 5) := (by have h9 := ok13.2; simp only [List.mem_cons, List.mem_nil_iff, or_false] at h9; exact ⟨x13.2.toNat, by omega, by omega⟩)
 refine R8 ?_
 refine AWP.le (C7 [0, 0] rfl) ?_
 refine d7 [(0, _), (1, _), (4, _), (6, _)] _ (fun (i : Nat) (cc : L5) (l : List Int) (v : Value) => i ≤ m0 ∧ l.length = i ∧ cc.p ≤ c.p + 2 + 2 * i ∧ ∀ y ∈ l, 0 ≤ y ∧ y ≤ 2) (fun (i : Nat) (cc : L5) (l : List Int) (v : Value) => [.box b 44 (Q4 code cc), .arr v 3 1 (l.map fun x => [AV.int x])]) (fun (i : Nat) (cc : L5) (l : List Int) (v : Value) => [(5, AV.is v), (7, AV.int i)]) (fun (i : Nat) (cc : L5) (l : List Int) (v : Value) => m0 - i) (0) (x13.1) ([]) (v10) ?_ (N7 B6 ⟨rfl, rfl, rfl, rfl, rfl, rfl, trivial⟩) ?_
 ·exact ⟨Nat.zero_le _, rfl, by omega, fun y h => by cases h⟩
 intro i cc l v hinv
 refine R7 ?_
 refine A6 (A0 rfl) ?_ ?_
 ·intro h16
  have k16 := of_decide_eq_true h16; try simp only [A4] at k16
  have hlt : i < m0 := by omega
  have hll := hinv.2.1
  refine R6 ?_
  refine E5 [0] rfl rfl rfl rfl Tryz.call14 rfl (H0 _ _ hcode _ _ qz6 qz6) (A1 (A0 rfl) (A1 D4 A3)) rfl ?_
  intro x21 ok21
  refine R1 ?_
  refine N0 (by' := 8) 1 rfl rfl rfl rfl B5 Tryz.type3 rfl rfl rfl rfl rfl rfl (A0 rfl) (A0 rfl) rfl o4 ?_
  intro v23_1
  refine R7 ?_
  refine Q6 i cc l v (i + 1) (x21.1) (l ++ [x21.2]) (v23_1) ?_ ?_ (Le.trans (C7 [0, 0] rfl) (N7 (by first | rfl | (rw [show (l ++ [x21.2]).map (fun x => [AV.int x]) = l.map (fun x => [AV.int x]) ++ [[AV.int x21.2]] from List.map_append]; rfl)) ⟨rfl, rfl, rfl, rfl, rfl, rfl, trivial⟩))
  ·exact ⟨by omega, by rw [H6, hinv.2.1]; rfl, by omega, Ao5 hinv.2.2.2 ok21.2⟩
  omega
 intro h16
 have k16 := of_decide_eq_false h16; try simp only [A4] at k16
 have hie : i = m0 := by omega
 have hll := hinv.2.1
 refine R2 ?_
 refine AWP.le (Ak5 [1] 5 rfl rfl (I5 (D9 (i := 0) rfl) F5) (K9 0 rfl rfl M7)) ?_
 refine R4 ?_
 refine E5 [0] rfl rfl rfl rfl Tryz.call15 rfl (J4 _ _ hcode _ ([(0), (1), (3)] : List Int) D1 qz6) (A1 (A0 rfl) (A1 (A0 rfl) A3)) rfl ?_
 intro x28 ok28
 have hgn : goodNet ⟨0, l, x28.2, []⟩ = true := BC7 qz6 hinv.2.2.2 ok28.2
 have hl35 : l.length = 3 ∨ l.length = 5 := qz6
 refine A2 rfl (B3 rfl Tryz.call61 rfl (Ao6 l x28.2 hgn hl35) (A1 (A0 rfl) (A1 (A0 rfl) A3))) ?_
 refine R4 ?_
 intro b8
 refine R4 ?_
 refine AX3 [] 9 (.pure 1 (.pure 2 (.e2 0 (.e1 3 (.e1 4 (.pure 5 (.pure 6 (.pure 7 (.e1 8 .nil)))))) 3 (.e1 0 (.e1 4 (.pure 5 (.pure 6 (.pure 7 (.e1 8 .nil))))))))) qz8 qz8 rfl AE8 ?_
 refine R2 ?_
 refine Y8 ?_ ?_
 ·refine C4 rfl rfl rfl (P6 (Ac5 0 rfl (A0 rfl) rfl C8 C0 rfl)) (fun a _ => qz2) ?_
  intro _ _
  refine R1 ?_
  refine C4 rfl rfl rfl (E6 [1] rfl Tryz.call12 rfl (AV8 _ _ hcode _ _ hm qz6) (A1 (A0 rfl) (A1 (A0 rfl) A3)) rfl) (fun a _ => qz2) ?_
  intro x36 ok36
  refine R1 ?_
  refine C4 rfl rfl rfl (E6 [] rfl Tryz.call9 rfl (AC4 _ _ (AD5 hgn hl35) qz6) (A1 (A0 rfl) (A1 (A0 rfl) A3)) rfl) (fun a _ => qz2) ?_
  intro x37 ok37
  refine R4 ?_
  refine Y4 rfl rfl rfl (N4 0 rfl rfl (A0 rfl) (A0 rfl) (F2 _) rfl C0 rfl) (fun a _ => qz2) ?_
  intro _ _
  refine R8 ?_
  (refine F1 [2, 2, 2] ((x36.1, x36.2.foldl H9 (w9 l x28.2), x37.1, x37.2)) ?_ rfl t6 (H4 rfl (C3 (ys := _) 1 rfl rfl C8 C0 rfl)); exact ⟨show x36.1.p ≤ _ by omega, AR9 (AD5 hgn hl35)⟩)
 refine C4 rfl rfl rfl (E6 [1] rfl Tryz.call12 rfl (AV8 _ _ hcode _ _ hm qz6) (A1 (A0 rfl) (A1 (A0 rfl) A3)) rfl) (fun a _ => qz2) ?_
 intro x36 ok36
 refine R1 ?_
 refine C4 rfl rfl rfl (P6 (Ac5 0 rfl (A0 rfl) rfl C8 C0 rfl)) (fun a _ => qz2) ?_
 intro _ _
 refine R1 ?_
 refine C4 rfl rfl rfl (E6 [] rfl Tryz.call9 rfl (AC4 _ _ (AD5 hgn hl35) qz6) (A1 (A0 rfl) (A1 (A0 rfl) A3)) rfl) (fun a _ => qz2) ?_
 intro x37 ok37
 refine R4 ?_
 refine Y4 rfl rfl rfl (N4 0 rfl rfl (A0 rfl) (A0 rfl) (F2 _) rfl C0 rfl) (fun a _ => qz2) ?_
 intro _ _
 refine R8 ?_
 (refine F1 [2, 2, 2] ((x36.1, x36.2.foldl H9 (w9 l x28.2), x37.1, x37.2)) ?_ rfl t6 (H4 rfl (C3 (ys := _) 1 rfl rfl C8 C0 rfl)); exact ⟨show x36.1.p ≤ _ by omega, AR9 (AD5 hgn hl35)⟩)
end Go.Proofs.YtkibefcceekmnaaGreatDoor
