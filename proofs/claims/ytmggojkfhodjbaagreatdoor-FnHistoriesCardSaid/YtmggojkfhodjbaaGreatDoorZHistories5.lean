/- Texts of the claim, part 5. -/
import Derived.Test.YtmggojkfhodjbaaGreatDoorZHistories4
set_option linter.defProp false
set_option linter.unusedVariables false
set_option linter.unusedSimpArgs false
set_option maxRecDepth 100000
set_option maxHeartbeats 4000000
namespace Go.M
open Go.AV
theorem Cb0 {l : List A5} (h : adj T9 l = true) (k : Str) : BC0 l k = AV7 l k := by
  have e := findW_eq h k
  cases hw : BC0 l k with
  | true =>
    obtain ⟨x, hx, hk⟩ := BN3.1 hw;exact (Ab1.2 ⟨x, C2 hx, hk⟩).symm
  | false =>
    rw [hw] at e;simp only [Bool.false_eq_true, if_false] at e;unfold findW at e;rw [List.find?_eq_none] at e
    cases hk : AV7 l k with
    | false => rfl
    | true => obtain ⟨x, hx, hxk⟩ := Ab1.1 hk; have := e x hx; simp [hxk] at this
theorem DL6 {w : List A5} (h : AH6 w = true) : adj T9 w = true := by
  unfold AH6 o8 T8 at h;simp only [D8] at h;have := h.1.2.2;rw [Bt2] at this;exact this
theorem DW0 {l : List B6} (ha : adj w4 l = true) {k : Str} {c : B6} (hc : Az3 l k = true → l[AI9 l k]? = some c) : Ak0 l k = (Az3 l k && decide ((16 : Int) ≤ (c.Vers.length : Int))) := by
  unfold Ak0;rw [CB0 ha]
  cases h : Az3 l k with
  | false => simp
  | true =>
    rw [D3 rfl, hc h, Bool.true_and];dsimp only;rw [decide_eq_decide]; omega
theorem AQ6 {l : List D2} {i : Nat} {h : D2} {n : Nat} (hs : C9 D2.size l ≤ n) (hx : l[i]? = some h) : h.size ≤ n ∧ C9 A5.size h.Writes ≤ n ∧ h.Writes.length ≤ n ∧ h.Reads.length ≤ n ∧ (Ab5 h).size ≤ n := by
  have h1 := L4 (Y4 hx) hs;have h2 : h.size = C9 (fun x => x.length) h.Reads + C9 A5.size h.Writes := rfl;have h3 := O2 (f := fun x : Str => x.length) (l := h.Reads);have h4 := O2 (f := A5.size) (l := h.Writes);have h5 : (Ab5 h).size = C9 (fun x => x.length) h.Reads + C9 A5.size h.Writes := rfl;exact ⟨by omega, by omega, by omega, by omega, by omega⟩
theorem Cf0 {α : Type} {f : α → Nat} {l : List α} (i : Nat) : C9 f (l.take i) ≤ C9 f l := by
  have := Al6 (f := f) (l := l.take i) (r := l.drop i);rw [Ao8] at this; omega
theorem CT4 : ∀ {l : List D2}, (hWs l).length ≤ C9 D2.size l
  | [] => E2 _
  | h :: l => by
    have ih := CT4 (l := l);have h4 := O2 (f := A5.size) (l := h.Writes);have h2 : h.size = C9 (fun x => x.length) h.Reads + C9 A5.size h.Writes := rfl;rw [BB2, G3, X7]; omega
theorem Cq3 {l : List D2} {i : Nat} {h : D2} (hx : l[i]? = some h) : hWs (l.take (i + 1)) = hWs (l.take i) ++ h.Writes := by
  rw [W1, hx, Be2];show _ ++ hWs [h] = _
  rw [BB2]; simp [hWs]
def tCmp (n : Int) (t : G7) : Int := AR0 t.Txn n
def hCmp (n : Int) (h : D2) : Int := AR0 h.Txn n
def Aj3 (l : List D2) (n : Int) : Nat := bs (hCmp n) l 0 l.length
def BC4 (l : List D2) (n : Int) : Bool := Am9 (hCmp n) l (Aj3 l n)
def BA2 (l : List G7) (n : Int) : Nat := bs (tCmp n) l 0 l.length
def CW2 (l : List G7) (n : Int) : Bool := Am9 (tCmp n) l (BA2 l n)
theorem Bf8 (a b : Int) : AR0 a b < 0 ↔ a < b := by unfold AR0; split <;> (try split) <;> omega
theorem BD8 (a b : Int) : AR0 a b = 0 ↔ a = b := by unfold AR0; split <;> (try split) <;> omega
theorem BM1 {α : Type} {f : α → Int} {l : List α} (h : l.Pairwise fun a b => f a < f b) {i j : Nat} {x y : α} (hij : i < j) (hx : l[i]? = some x) (hy : l[j]? = some y) : f x < f y := by
  obtain ⟨i1, i2⟩ := G2.1 hx;obtain ⟨j1, j2⟩ := G2.1 hy;have := List.pairwise_iff_getElem.1 h i j i1 j1 hij;rw [i2, j2] at this; exact this
theorem CC5 {α : Type} {f : α → Int} {l : List α} (h : l.Pairwise fun a b => f a < f b) (n : Int) : (∀ i x, i < bs (fun a => AR0 (f a) n) l 0 l.length → l[i]? = some x → f x < n) ∧ (∀ x, l[bs (fun a => AR0 (f a) n) l 0 l.length]? = some x → n ≤ f x) := by
  have := CR3 (fun a => AR0 (f a) n) l (fun i j x y hij hx hy hf => by
    rw [Bf8] at *;have := BM1 h hij hx hy; omega) l.length 0 l.length rfl (E2 _) (N2 _) (fun k x hk => by omega) (fun x hx => by rw [AT6 (N2 _)] at hx; cases hx)
  exact ⟨fun i x hi hx => (Bf8 _ _).1 (this.1 i x hi hx), fun x hx => by have := this.2 x hx; rw [Bf8] at this; omega⟩
theorem DF8 {α : Type} {f : α → Int} {l : List α} (h : l.Pairwise fun a b => f a < f b) (n : Int) : Am9 (fun a => AR0 (f a) n) l (bs (fun a => AR0 (f a) n) l 0 l.length) = l.any fun a => f a == n := by
  obtain ⟨h1, h2⟩ := CC5 h n
  cases ha : l.any fun a => f a == n with
  | true =>
    rw [List.any_eq_true] at ha;obtain ⟨x, hx, e⟩ := ha;obtain ⟨i, hi⟩ := i7 hx;have e : f x = n := by simpa using e
    have hip : bs (fun a => AR0 (f a) n) l 0 l.length = i := by
      rcases Nat.lt_trichotomy i (bs (fun a => AR0 (f a) n) l 0 l.length) with h3 | h3 | h3
      · have := h1 i x h3 hi; omega
      · exact h3.symm
      · have hl := (G2.1 hi).1
        have hy := P2 (show bs (fun a => AR0 (f a) n) l 0 l.length < l.length by omega);have h4 := h2 _ hy;have h5 := BM1 h h3 hy hi; omega
    rw [hip];unfold Am9;rw [hi];simp only [(BD8 _ _).2 e]; rfl
  | false =>
    rw [List.any_eq_false] at ha;unfold Am9
    cases e : l[bs (fun a => AR0 (f a) n) l 0 l.length]? with
    | none => rfl
    | some x =>
      have := ha x (C2 e);simp only [i8] at this ⊢;rw [beq_eq_false_iff_ne];exact fun k => this ((BD8 _ _).1 k)
theorem BM2 {l : List D2} (h : l.Pairwise fun a b => a.Txn < b.Txn) (n : Int) : BC4 l n = AX0 l n := DF8 (f := D2.Txn) h n
theorem BZ3 {l : List G7} (h : l.Pairwise fun a b => a.Txn < b.Txn) (n : Int) : CW2 l n = AT8 l n := DF8 (f := G7.Txn) h n
theorem AG7 {s : E9} {n : Nat} (h : s.size ≤ n) : C9 B6.size s.Cells ≤ n ∧ C9 D2.size s.Held ≤ n ∧ s.Told.length ≤ n ∧ s.Cells.length ≤ n ∧ s.Held.length ≤ n := by
  have h1 : s.size = C9 B6.size s.Cells + C9 D2.size s.Held + s.Told.length := rfl;have h2 := O2 (f := B6.size) (l := s.Cells);have h3 := O2 (f := D2.size) (l := s.Held);exact ⟨by omega, by omega, by omega, by omega, by omega⟩
theorem DW1 {s : E9} {i : Nat} {h y : D2} (hx : s.Held[i]? = some h) (hy : s.Held[i - 1]? = some y) : Aq7 s i = (!(((!T2 (Ab5 h) || decide (s.Floor < h.Time)) || (decide ((0 : Int) < (i : Int)) && decide (h.Txn ≤ y.Txn)))) && (!((s.Held.take i).any fun g => Az4 h g) && !(h.Writes.any fun w => decide (h.Time ≤ O9 s.Cells w.Key)))) := by
  unfold Aq7;rw [hx];have h1 : CO0 s.Held i h.Txn = !(decide ((0 : Int) < (i : Int)) && decide (h.Txn ≤ y.Txn)) := by
    unfold CO0; rw [hy]; dsimp only;congr 2
    rw [decide_eq_decide]; omega
  have h2 : ((s.Held.take i).all fun g => apart g h.Reads h.Writes) = !((s.Held.take i).any fun g => Az4 h g) := by
    rw [List.not_any_eq_all_not]; congr 1; funext g; rw [BV1, Bool.not_not]
  have h3 : (h.Writes.all fun w => decide (O9 s.Cells w.Key < h.Time)) = !(h.Writes.any fun w => decide (h.Time ≤ O9 s.Cells w.Key)) := by
    rw [List.not_any_eq_all_not]; congr 1; funext w; rw [← decide_not, decide_eq_decide]; omega
  dsimp only;rw [h1, h2, h3];simp only [Bool.not_or, Bool.not_not, Bool.and_assoc]
theorem CC6 {h : D2} (hg : T2 (Ab5 h) = true) : adj T9 h.Writes = true := by
  unfold T2 Ab5 at hg;rw [D3 rfl] at hg;unfold BE5 at hg;simp only [D8] at hg;exact DL6 hg.1.1.2
theorem DW2 {s : E9} {i : Nat} {t y : G7} (hx : s.Told[i]? = some t) (hy : s.Told[i - 1]? = some y) : Az5 s i = (!((!AS6 t.Txn || !((t.Yes && within t.Time 1 s.Floor) || (!t.Yes && (t.Time == 0)))) || (decide ((0 : Int) < (i : Int)) && decide (t.Txn ≤ y.Txn))) && !AX0 s.Held t.Txn) := by
  unfold Az5;rw [hx];have h1 : CO1 s.Told i t.Txn = !(decide ((0 : Int) < (i : Int)) && decide (t.Txn ≤ y.Txn)) := by
    unfold CO1; rw [hy]; dsimp only;congr 2
    rw [decide_eq_decide]; omega
  have h2 : BE7 s t = ((t.Yes && within t.Time 1 s.Floor) || (!t.Yes && (t.Time == 0))) := by
    unfold BE7; cases t.Yes <;> simp
  dsimp only;rw [h1, h2];generalize ((t.Yes && within t.Time 1 s.Floor) || (!t.Yes && (t.Time == 0))) = b
  simp only [Bool.not_or, Bool.not_not, Bool.and_assoc]
end Go.M
namespace Go.PQ
open Go.Proofs Go.Proofs.Tryz
open Go Go.AV Go.M
attribute [local irreducible] OpW OpA OpS AWP K6 L8 K8 OpE K7 I7 L1 Le Ev G4 M7 Int.tmod Int.tdiv IntKind.wrap
theorem Cf1 (w : A5) (os : List A5) (rs : List Str) (hs : os.length ≤ 4611686018427387903) (ha : adj T9 os = true) : E1 332 [AV.agg w.cs, AV.eptr [AV.list 3 (os.map A5.cs)], AV.eptr [strs rs]] (AV.bool (AV7 os w.Key || BP5 rs w.Key)) := by
  have hwh := Cb0 ha w.Key;refine B2 func332 rfl ntmps332 rfl ?_;refine R3 ?_;intro b3;refine R7 ?_;refine zF rfl call112 (BB5 _ _ qz8) (A2 (A0 rfl) (A2 (A0 rfl) B0)) ?_;refine R13 ?_;refine T6 rfl (fun hc => zG rfl call333 (Bj9 _ _) zS) ?_;refine R4 ?_;exact D5 rfl (A8 rfl (by exact E5 AV.bool (by rw [hwh]; rfl)))
theorem Bo6 (ws : List A5) (rs : List Str) (os : List A5) (hs : os.length ≤ 4611686018427387903) (ha : adj T9 os = true) : E1 302 [AV.list 3 (ws.map A5.cs), strs rs, AV.list 3 (os.map A5.cs)] (AV.bool (Ba4 ws rs os)) := by
  refine B2 func302 rfl ntmps302 rfl ?_;refine R2 ?_;refine DD4 rfl rfl rfl rfl zA (Bz8 _ _) ?_;intro b4;refine DD4 rfl rfl rfl rfl zA (Bz8 _ _) ?_;intro b5;refine R5 ?_;refine A1 rfl (BR2 rfl rfl F4) ?_;refine A1 rfl (m5 rfl call134 rfl (Aq3 _ _ _ Aw1) (U2 _) (O6 (evb (A0 rfl)) (O6 (AY7 (evb_clo2 0 1 (A0 rfl) rfl rfl) (Ak5 call332 (fun w (_ : True) => Cf1 w _ _ W5 AK2))) o0))) ?_;exact zq136
theorem DL7 (h k : D2) (h1 : h.Writes.length ≤ 4611686018427387903) (k1 : k.Writes.length ≤ 4611686018427387903) (ha : adj T9 h.Writes = true) (ka : adj T9 k.Writes = true) : E1 256 [AV.agg h.cs, AV.agg k.cs] (AV.bool (Az4 h k)) := by
  refine B2 func256 rfl ntmps256 rfl ?_;refine R3 ?_;intro b2;refine R1 ?_;intro b3;refine R10 ?_;refine zF rfl call302 (Bo6 _ _ _ W5 AK2) (A2 (A0 rfl) (A2 (A0 rfl) (A2 (A0 rfl) B0))) ?_;refine R7 ?_;refine T6 rfl (fun hc => zG rfl call302 (Bo6 _ _ _ W5 AK2) (A2 (A9 rfl hc) (A2 (A9 rfl hc) (A2 (A9 rfl hc) B0)))) ?_;exact zq109
theorem rec_spec (h : D2) : E1 294 [AV.agg h.cs] (AV.agg (Ab5 h).cs) := by
  refine B2 func294 rfl ntmps294 rfl ?_;refine R3 ?_;intro b1;refine R1 ?_;intro b2;refine R17 ?_;exact D5 rfl (F5 (ys := _) 0 rfl rfl Ad3 AJ7 rfl)
theorem CB7 {l : List B6} {h : List D2} (a b : Nat) (hl : C9 B6.size l ≤ 1048576) (hh : C9 D2.size h ≤ 1048576) : (AB2 (l.take a) ++ T8 (hWs (h.take b))).length ≤ 2097152 := by
  have h1 := O2 (f := B6.size) (l := l);have h2 := CT4 (l := h.take b);have h3 := Cf0 (f := D2.size) (l := h) b;unfold AB2 T8;simp only [G3, A7, H4];omega
theorem DW3 (s : E9) (held : List D2) (hg : AA6 s.Cells = true) (hs : s.size ≤ 1048576) (hh : C9 D2.size held ≤ 1048576) : E1 257 [AV.agg s.cs, AV.list 5 (held.map D2.cs)] (AV.bool (decide (held.length ≤ 12) && room s.Cells (hWs held))) := by
 obtain ⟨hs1, hs2, hs3, hs4, hs5⟩ := AG7 hs;have hca := (AI3 hg).2.1;have hhl := O2 (f := D2.size) (l := held);obtain ⟨p, hp⟩ : ∃ p : A5 → Bool, p = fun w => !Ak0 s.Cells w.Key := ⟨_, rfl⟩;refine B2 func257 rfl ntmps257 rfl ?_;refine R3 ?_;intro b2;refine R4 ?_;refine P4 rfl rfl rfl rfl F0 K1 ?_;intro v14;refine R11 ?_;refine V8 [(1, _), (2, _), (4, _), (16, _), (17, _)] _ (fun (i : Nat) (v : Value) (ks : List Str) => i ≤ s.Cells.length ∧ ks = AB2 (s.Cells.take i)) (fun i v ks => [.arr v 9 1 (ks.map fun k => [AV.str k])]) (fun i v ks => [(5, AV.is v), (18, AV.int i)]) (fun i v ks => s.Cells.length - i) (0) (v14) ([]) ?_ (K5 B8 A4) ?_
 ·exact zq8
 intro i v ks hinv;refine zK ?_ ?_
 ·intro h19 k19;have hlt : i < s.Cells.length := by omega
  obtain ⟨c, hx⟩ := B3 hlt;have hkl : ks.length ≤ 1048576 := by rw [hinv.2]; unfold AB2; rw [A7, H4]; omega
  refine zq0 ?_;intro b7;refine R7 ?_;refine zq121 ?_;intro v26_1;refine R6 ?_;refine P6 i v ks (i + 1) (v26_1) (ks ++ [c.Key]) ?_ ?_ (C7 1 Ar4 A4)
  ·exact ⟨by omega, by rw [hinv.2]; unfold AB2; rw [W1, hx, X8]; rfl⟩
  omega
 intro h19 k19;have hge : s.Cells.length ≤ i := by omega
 have hks : ks = AB2 s.Cells := by rw [hinv.2, T4 hge]
 refine R9 ?_;refine V8 [(1, _), (2, _), (28, _), (29, _)] _ (fun (q : Nat) (v1 : Value) (k1 : List Str) => q ≤ held.length ∧ k1 = AB2 s.Cells ++ T8 (hWs (held.take q)) ∧ (hWs held).all p = (hWs (held.drop q)).all p) (fun q v1 k1 => [.arr v1 9 1 (k1.map fun k => [AV.str k])]) (fun q v1 k1 => [(5, AV.is v1), (30, AV.int q)]) (fun q v1 k1 => held.length - q) (0) (v) (ks) ?_ (K5 B8 A4) ?_
 ·exact ⟨E2 _, by rw [hks, List.take_zero]; simp [hWs, T8], rfl⟩
 intro q v1 k1 hinv;refine zK ?_ ?_
 ·intro h31 k31;have hlt : q < held.length := by omega
  obtain ⟨h, hh0⟩ := B3 hlt;obtain ⟨g1, g2, g3, g4, g5⟩ := AQ6 hh hh0;have hinv1 := hinv;refine R5 ?_;refine A1 rfl (zX hh0) ?_;refine R2 ?_;intro b9;refine R10 ?_;refine zL [1] ?_;refine V8 [(1, _), (2, _), (9, _), (28, _), (29, _), (30, _), (31, _), (32, _), (33, _), (34, _), (35, _), (36, _)] _ (fun (r : Nat) (v2 : Value) (k2 : List Str) => r ≤ h.Writes.length ∧ k2 = k1 ++ T8 (h.Writes.take r) ∧ h.Writes.all p = (h.Writes.drop r).all p) (fun r v2 k2 => [.arr v2 9 1 (k2.map fun k => [AV.str k])]) (fun r v2 k2 => [(5, AV.is v2), (37, AV.int r)]) (fun r v2 k2 => h.Writes.length - r) (0) (v1) (k1) ?_ (K5 B8 A4) ?_
  ·exact ⟨E2 _, by simp [T8], rfl⟩
  intro r v2 k2 hinv;refine zK ?_ ?_
  ·intro h38 k38;have hlt2 : r < h.Writes.length := by omega
   obtain ⟨w, hw⟩ := B3 hlt2;obtain ⟨c, hc0⟩ := Ai2 s.Cells (AI9 s.Cells w.Key);have hc1 : Az3 s.Cells w.Key = true → s.Cells[AI9 s.Cells w.Key]? = some c := fun e => by (obtain ⟨y, hy, _⟩ := BA9.1 e; exact hc0 (G2.1 hy).1)
   have hfu := DW0 hca hc1;have hk2l : k2.length ≤ 3145728 := by rw [hinv.2.1, hinv1.2.1]; have := CB7 s.Cells.length q hs1 hh; rw [AM2] at this; unfold T8 at this ⊢; simp only [G3, A7, H4] at this ⊢; omega
   refine R5 ?_;refine A1 rfl (zX hw) ?_;refine R2 ?_;intro b11;refine R9 ?_;refine zF rfl call296 (BH1 s.Cells w.Key qz8) F4 ?_;refine R13 ?_;refine J6 rfl (fun hc => Ac0 rfl D6 K0 (A9 rfl hc) (A9 rfl hc) (by have := (G2.1 (hc1 hc)).1; omega) (by rw [AA4, Z5, hc1 hc]; rfl)) ?_;refine zC ?_ ?_
   ·intro h59;have hpw : p w = false := by rw [hp]; simp only [AJ5]; rw [hfu]; simpa using h59
    have hro : room s.Cells (hWs held) = false := by (unfold room; rw [show ((hWs held).all fun w => !Ak0 s.Cells w.Key) = false from by rw [← hp, hinv1.2.2, J7 hh0, BB2, List.all_append, hinv.2.2, J7 hw, AC0, hpw]; rfl]; rfl)
    refine R5 ?_;exact D5 rfl (A8 rfl qz77)
   intro h59;have hpw : p w = true := by rw [hp]; simp only [q7]; rw [hfu]; simpa using h59
   refine R6 ?_;refine zq121 ?_;intro v64_2;refine R6 ?_;refine P6 r v2 k2 (r + 1) (v64_2) (k2 ++ [w.Key]) ?_ ?_ (Le.trans (B4 [0, 0] rfl) (C7 1 Ar4 A4))
   ·exact ⟨by omega, by rw [hinv.2.1]; unfold T8; rw [W1, hw, X8, m6]; rfl, by rw [hinv.2.2, J7 hw, AC0, hpw]; rfl⟩
   omega
  intro h38 k38;have hge2 : h.Writes.length ≤ r := by omega
  have hk2 : k2 = k1 ++ T8 h.Writes := by rw [hinv.2.1, T4 hge2]
  have hal : h.Writes.all p = true := by rw [hinv.2.2, n5 hge2]; rfl
  refine R5 ?_;refine P6 q v1 k1 (q + 1) (v2) (k2) ?_ ?_ (Le.trans (B4 [1, 0] rfl) (C7 1 B8 A4))
  ·exact ⟨by omega, by rw [hk2, hinv1.2.1, Cq3 hh0]; simp [T8], by rw [hinv1.2.2, J7 hh0, BB2, List.all_append, hal]; rfl⟩
  omega
 intro h31 k31;have hge : held.length ≤ q := by omega
 have hk9 : k1 = AB2 s.Cells ++ T8 (hWs held) := by rw [hinv.2.1, T4 hge]
 have hal9 : (hWs held).all p = true := by rw [hinv.2.2, n5 hge]; rfl
 have hln := CB7 s.Cells.length held.length hs1 hh;rw [AM2, AM2, ← hk9] at hln;have hre : room s.Cells (hWs held) = decide ((cmpL (BE6 k1)).length ≤ 24) := by (unfold room Aq6 Ap2; rw [← hp, hal9, ← hk9]; rfl)
 refine R4 ?_;refine zI [0] rfl call303 (Cq2 _ k1 qz8) (A2 (A0 rfl) B0) rfl ?_;intro x68 ok68;refine R8 ?_;refine Al3 rfl rfl (X0 rfl rfl rfl) ?_ ?_
 ·intro gh74;refine zI [0] rfl call304 (CT3 _ (BE6 k1) (by rw [Bm5]; omega)) (A2 (A9 rfl gh74) B0) rfl ?_;intro x74 ok74;refine R6 ?_;exact D5 rfl (A8 rfl qz77)
 intro gh74;refine Al3 rfl rfl (X0 rfl rfl rfl) (fun hq => by rw [gh74] at hq; cases hq) (fun _ => ?_);refine Al3 rfl rfl (X0 rfl rfl rfl) (fun hq => by rw [gh74] at hq; cases hq) (fun _ => ?_);refine A1 rfl (Cj7 rfl zA (Bt1 (x := AV.bool false) gh74)) ?_;refine R3 ?_;exact D5 rfl (A8 rfl qz77)
theorem CT5 (h : D2) (n : Int) : E1 253 [AV.agg h.cs, AV.int n] (AV.int (hCmp n h)) := by
  refine B2 func253 rfl ntmps253 rfl ?_;refine R3 ?_;intro b2;refine R7 ?_;refine zF rfl call111 (Bx4 _ _) F4 ?_;exact zq136
theorem CT6 (h : G7) (n : Int) : E1 110 [AV.agg h.cs, AV.int n] (AV.int (tCmp n h)) := by
  refine B2 func110 rfl ntmps110 rfl ?_;refine R3 ?_;intro b2;refine R7 ?_;refine zF rfl call111 (Bx4 _ _) F4 ?_;exact zq136
theorem Cq4 (f : Int) (c t : List (List AV)) (l : List D2) (n : Int) (hs : l.length ≤ 1048576) : E1 217 [AV.agg [AV.int f, AV.list 2 c, AV.list 5 (l.map D2.cs), AV.list 3 t], AV.int n] (AV.tup [AV.int (Aj3 l n), AV.bool (BC4 l n)]) := by
  refine B2 func217 rfl ntmps217 rfl ?_;refine R3 ?_;intro b2;refine R8 ?_;refine zF rfl call252 (BY8 _ _ _ Aw1 _ qz8) (A2 (A0 rfl) (A2 (A0 rfl) (A2 (Bs8 call253 (fun h n (_ : True) => CT5 h n)) B0))) ?_;refine R6 ?_;exact zq114
theorem Am2 (f : Int) (c h : List (List AV)) (l : List G7) (n : Int) (hs : l.length ≤ 1048576) : E1 56 [AV.agg [AV.int f, AV.list 2 c, AV.list 5 h, AV.list 3 (l.map G7.cs)], AV.int n] (AV.tup [AV.int (BA2 l n), AV.bool (CW2 l n)]) := by
  refine B2 func56 rfl ntmps56 rfl ?_;refine R3 ?_;intro b2;refine R8 ?_;refine zF rfl call109 (BY9 _ _ _ Aw1 _ qz8) (A2 (A0 rfl) (A2 (A0 rfl) (A2 (Bs8 call110 (fun h n (_ : True) => CT6 h n)) B0))) ?_;refine R6 ?_;exact zq114
theorem Bi8 (s : E9) (n : Int) (hs : s.Held.length ≤ 1048576) : E1 217 [AV.agg s.cs, AV.int n] (AV.tup [AV.int (Aj3 s.Held n), AV.bool (BC4 s.Held n)]) := Cq4 _ _ _ s.Held n hs
theorem Bi9 (s : E9) (n : Int) (hs : s.Told.length ≤ 1048576) : E1 56 [AV.agg s.cs, AV.int n] (AV.tup [AV.int (BA2 s.Told n), AV.bool (CW2 s.Told n)]) := Am2 _ _ _ s.Told n hs
end Go.PQ
namespace Go.AV
section
variable {T X : Type} {cs : T → List AV} {ocs : T → X → List AV} {ow : T → X → List Own}
theorem DW4 {l : List T} {xs : List X} {i : Nat} {p : T} {x : X} (hi : i ≤ l.length) (h : xs.length = l.length) : (J9 ocs l xs).take i ++ ocs p x :: (J9 ocs l xs).drop i = J9 ocs (l.take i ++ p :: l.drop i) (xs.take i ++ x :: xs.drop i) := by
  unfold J9;rw [List.zipWith_append (by rw [H4, H4]; omega), List.zipWith_cons_cons, List.take_zipWith, List.drop_zipWith]
theorem nin_ins {l : List T} {xs : List X} {i : Nat} {p : T} {x : X} (hi : i ≤ l.length) (h : xs.length = l.length) : (ow p x ++ nin ow l xs).Perm (nin ow (l.take i ++ p :: l.drop i) (xs.take i ++ x :: xs.drop i)) := by
  have e : nin ow l xs = nin ow (l.take i) (xs.take i) ++ nin ow (l.drop i) (xs.drop i) := by
    unfold nin;rw [← Ah3, ← List.zipWith_append (by rw [H4, H4]; omega), Ao8, Ao8]
  have e2 : nin ow (l.take i ++ p :: l.drop i) (xs.take i ++ x :: xs.drop i) = nin ow (l.take i) (xs.take i) ++ (ow p x ++ nin ow (l.drop i) (xs.drop i)) := by
    unfold nin;rw [List.zipWith_append (by rw [H4, H4]; omega), List.zipWith_cons_cons, Ah3, Ac1]
  rw [e, e2, ← m6, ← m6];exact List.Perm.append_right _ AO2
theorem Cq5 {X : Type} {xs : List X} {i : Nat} {x : X} (hi : i ≤ xs.length) : (xs.take i ++ x :: xs.drop i).length = xs.length + 1 := by
  rw [G3, I9, H4, AD4]; omega
end
end Go.AV
namespace Go.PQ
open Go.Proofs Go.Proofs.Tryz
open Go Go.AV Go.M
attribute [local irreducible] OpW OpA OpS AWP K6 L8 K8 OpE K7 I7 L1 Le Ev G4 M7
def B6.ow (c : B6) (x : Value) : List Own := [.arr x 325 3 (c.Vers.map Y8.cs)]
theorem B6.lcM {own : List Own} (c : B6) (x : Value) (h : ∀ o ∈ B6.ow c x, o ∈ own) : AH5 own (B6.ocs c x) c.cs := C1 E4 (C1 (K3 (h _ (C2 (i := 0) rfl)) F6) Y2)
theorem DL8 {l : List B6} {xs : List Value} {p : B6} {x : Value} {i : Nat} (hp : l[i]? = some p) (h : xs.length = i) : J9 B6.ocs (l.take i) xs ++ B6.ocs p x :: (l.drop (i + 1)).map B6.cs = J9 B6.ocs (l.take (i + 1)) (xs ++ [x]) ++ (l.drop (i + 1)).map B6.cs := by
  rw [← AY9 hp h, m6]; rfl
theorem CT7 (v vv : Value) (l : List (List AV)) (x : List AV) (hx2 : x.length = 2) (hl2 : ∀ r ∈ l, r.length = 2) (i : Nat) (hi : i ≤ l.length) (hl : l.length ≤ 4194304) : L7 297 [AV.is v, AV.int i, AV.is vv] [.arr v 322 2 (l.map id), .arr vv 322 2 [id x]] (fun _ : Value => True) (fun v => [.arr v 322 2 ((l.take i ++ x :: l.drop i).map id)]) (fun v => AV.is v) := by
 have hn : (l.map id).length = l.length := A7 _;have h1 : ([id x] : List (List AV)).length = 1 := rfl;have e28 : ((l.map id).length : Int) + (([id x] : List (List AV)).length : Int) = ((l.length + 1 : Nat) : Int) := by rw [hn, h1]; rfl
 have e49 : (i : Int) + (([id x] : List (List AV)).length : Int) = ((i + 1 : Nat) : Int) := by rw [h1]; rfl
 have e39 : ((l.length + 1 : Nat) : Int) - (i : Int) = ((l.length + 1 - i : Nat) : Int) := by omega
 refine C6 func297 rfl ntmps297 rfl ?_;refine At5 0 rfl ?_ ?_
 ·intro hv hes; subst hv;have hl0 : l = [] := by cases l with | nil => rfl | cons y l => (simp at hes)
  subst hl0;have hi0 : i = 0 := by simpa using hi
  subst hi0;refine At5 1 rfl (fun _ h => by cases h) ?_;intro gv cv hvv _ _;subst hvv;refine zq48 ?_;refine R5 ?_;refine A1 rfl (CF9 0 rfl D6 K0 zA rfl zA qz3 qz3) ?_;refine R4 ?_;refine A1 rfl (Aw8 rfl D6 zA) ?_;refine zC ?_ ?_
  ·intro h16;have k16 := J3 h16;(try simp only [A7] at k16);rw [h1] at k16; omega
  intro h16;have k16 := J0 h16;(try simp only [A7] at k16);refine zC ?_ ?_
  ·intro h22;have k22 := J3 h22;(try simp only [A7] at k22);refine R4 ?_;refine BI9 (by' := 40) 0 rfl rfl rfl rfl D6 type322 rfl rfl rfl rfl rfl rfl zA (Af9 1 rfl zA) Y1 rfl (by simp only [A7, I9, Q8]; omega) ?_;intro v25;refine R3 ?_;exact I5 [0] v25 (trivial) rfl Cj0 (N4 rfl (A8 rfl BQ3))
  intro h22;have k22 := J0 h22;(try simp only [A7] at k22);exact absurd rfl k22
 intro g cap hv hlc hcm; subst hv;refine At5 1 rfl (fun _ h => by cases h) ?_;intro gv cv hvv _ _;subst hvv;refine zq48 ?_;refine R5 ?_;refine A1 rfl (AY8 rfl D6 K0 zA zA qz3 qz3) ?_;refine R4 ?_;refine A1 rfl (Aw8 rfl D6 zA) ?_;refine zC ?_ ?_
 ·intro h16;have k16 := J3 h16;(try simp only [A7] at k16);rw [h1] at k16; omega
 intro h16;have k16 := J0 h16;(try simp only [A7] at k16);refine R4 ?_;refine A1 rfl (Aw8 rfl D6 zA) ?_;refine zC ?_ ?_
 ·intro h22;have k22 := J3 h22;(try simp only [A7] at k22);refine R4 ?_;refine BI9 (by' := 40) 0 rfl rfl rfl rfl D6 type322 rfl rfl rfl rfl rfl rfl zA (Af9 1 rfl zA) Y1 rfl (by simp only [A7, I9, Q8]; omega) ?_;intro v25;refine R3 ?_;exact I5 [0] v25 (trivial) rfl Cj0 (N4 rfl (A8 rfl BQ3))
 intro h22;have k22 := J0 h22;(try simp only [A7] at k22);refine R7 ?_;rw [e28];refine R1 ?_;refine A1 rfl (w_vcap rfl D6 zA) ?_;refine zK ?_ ?_
 ·intro h31 k31;refine R4 ?_;refine A1 rfl (CG1 rfl D6 K0 zA zA qz8 (by rw [hn] at hlc; omega)) ?_;refine R3 ?_;rw [e28];refine R2 ?_;rw [e39, AA4];refine CG2 (by' := 40) (j := i) (m := l.length + 1 - i) 0 rfl rfl rfl rfl D6 m7 type322 rfl rfl rfl rfl rfl rfl zA zA rfl (by rw [hn]; exact hi) qz8 qz8 qz8 qz8 ?_;intro g2 cap2 hcap2;refine R6 ?_;refine A1 rfl (AY8 rfl D6 K0 zA zA qz3 qz3) ?_;refine R1 ?_;rw [AA4];refine BL8 (k := i) 0 rfl rfl rfl rfl D6 type322 rfl zA (Af9 2 rfl zA) rfl (by rw [h1]; omega) (by rw [h1]; omega) hcap2 Y1 ?_;refine R2 ?_;refine M6 8 E6 E6 rfl ?_;refine R4 ?_;rw [e49];refine B7 rfl rfl (AY8 rfl D6 K0 zA zA qz3 qz3) ?_;refine R2 ?_;refine B7 rfl rfl (AY8 rfl D6 K0 zA zA qz3 qz3) ?_;refine R1 ?_;simp only [AA4];refine BL8 (k := i + 1) 0 rfl rfl rfl rfl D6 type322 rfl zA (CR2 1 rfl zA) rfl (by rw [AD4, hn]; omega) (by rw [AD4, hn]; omega) hcap2 qz203 ?_;refine R7 ?_;exact I5 [0] (slv g2 (i + (l.length + 1 - i)) cap2) (trivial) rfl Cj0 (N4 rfl (A8 rfl BQ3))
 intro h31 k31;refine R7 ?_;rw [e28];refine A1 rfl (CG1 rfl D6 K0 zA zA qz3 qz3) ?_;rw [AA4];refine R10 ?_;rw [e49];refine A1 rfl (AY8 rfl D6 K0 zA zA qz3 qz3) ?_;rw [AA4];refine A1 rfl (Bw4 (tb := 4) 1 0 rfl func328 E6 E6 E6 E6 D6 K0 zA zA rfl rfl rfl qz8 rfl) ?_;refine zC ?_ ?_
 ·intro h68;refine R1 ?_;refine M6 8 E6 E6 rfl ?_;refine R4 ?_;rw [e49];refine B7 rfl rfl (AY8 rfl D6 K0 zA zA qz3 qz3) ?_;refine R2 ?_;refine B7 rfl rfl (AY8 rfl D6 K0 zA zA qz3 qz3) ?_;refine R1 ?_;simp only [AA4];refine Cm0 (k := i) (len := (l.map id).length) 0 rfl rfl rfl rfl D6 type322 rfl (by rw [hn]; exact A0 rfl) (by rw [hn]; exact A0 rfl) rfl qz8 qz8 ?_;intro j77;refine R5 ?_;refine A1 rfl (AY8 rfl D6 K0 zA zA qz3 qz3) ?_;refine R1 ?_;rw [AA4];refine BL8 (k := i) 0 rfl rfl rfl rfl D6 type322 rfl zA (Af9 1 rfl zA) rfl (by rw [h1, hn]; omega) (by rw [h1]; omega) qz8 Y1 ?_;refine R7 ?_;exact I5 [0] (slv g ((l.map id).length + 1) cap) (trivial) rfl Cj0 (N4 rfl (A8 rfl BQ3))
 intro h68
 cases h68
theorem Bj0 (l : List B6) (hs : C9 B6.size l ≤ 4194304) : L7 246 [AV.list 2 (l.map B6.cs)] [] (fun x : Value × List Value => x.2.length = l.length) (fun x => .arr x.1 322 2 (J9 B6.ocs l x.2) :: nin B6.ow l x.2) (fun x => AV.is x.1) := by
 have hl : l.length ≤ 4194304 := L4 O2 hs;refine C6 func246 rfl ntmps246 rfl ?_;refine zq48 ?_;refine R4 ?_;refine zI [] rfl call292 (CS5 _ W5) (A2 (A0 rfl) B0) rfl ?_;intro x6 ok6;refine R10 ?_;refine J5 [(2, _), (3, _), (8, _)] [] (fun (i : Nat) (xs : List Value) => i ≤ l.length ∧ xs.length = i) (fun i xs => [.arr x6 322 2 (J9 B6.ocs (l.take i) xs ++ (l.drop i).map B6.cs)] ++ (nin B6.ow (l.take i) xs)) (fun i xs => [(9, AV.int i)]) (fun i xs => l.length - i) (0) ([]) ?_ (K5 B8 A4) ?_
 ·exact zq8
 intro i xs hinv;refine G6 (S0 _) ?_;refine zK ?_ ?_
 ·intro h10 k10;have hlt : i < l.length := by omega
  obtain ⟨x, hx⟩ := B3 hlt;have hsx := Ab3 (L4 (Y4 hx) hs);rw [J7 hx, j4];refine R13 ?_;refine A1 rfl (I3 0 rfl D6 K0 zA rfl zA qz8 (by rw [G3, I9, U3 BQ4, H4]; omega)) ?_;refine A1 rfl (L5 0 rfl V4 rfl z7 zA rfl rfl (AK4 (show (J9 B6.ocs (l.take i) xs).length = i by rw [U3 BQ4, H4]; omega))) ?_;refine A1 rfl (N5 0 rfl zA rfl isAgg320 (AK4 (show (J9 B6.ocs (l.take i) xs).length = i by rw [U3 BQ4, H4]; omega)) rfl) ?_;refine zI [] rfl call293 (Ce6 _ W5) (A2 (A0 rfl) B0) rfl ?_;intro x19 ok19;refine A1 rfl (I3 1 rfl D6 K0 zA rfl zA qz8 (by rw [G3, I9, U3 BQ4, H4]; omega)) ?_;refine A1 rfl (L5 1 rfl V4 rfl z7 zA rfl rfl (AK4 (show (J9 B6.ocs (l.take i) xs).length = i by rw [U3 BQ4, H4]; omega))) ?_;refine O4 0 rfl fun one_x19 => ?_;refine An8 1 rfl rfl rfl zA zA (L2 one_x19) rfl z7 (show (J9 B6.ocs (l.take i) xs).length = i by rw [U3 BQ4, H4]; omega) rfl ?_;refine R1 ?_;refine zL [1, 0] ?_;refine AWP.le (S6 1 (t := nin B6.ow (l.take (i + 1)) (xs ++ [x19])) (Ag0 (ow := B6.ow) (x := x19) hx hinv.2)) ?_;refine R4 ?_;refine G0 i xs (i + 1) (xs ++ [x19]) ?_ ?_ (K5 (Eq.trans (by exact E5 (fun z => Own.arr _ _ _ z :: _) (DL8 hx hinv.2)) (S0 _).symm) A4)
  ·exact ⟨by omega, by rw [G3, hinv.2]; rfl⟩
  omega
 intro h10 k10;have hge : i = l.length := by omega
 have hxs := hinv.2.trans hge;rw [show l.take i = l from T4 qz8, show l.drop i = [] from n5 qz8, List.map_nil, S0];refine R7 ?_;exact G8 [0] 0 (nin B6.ow l xs) (x6, xs) (hxs) rfl B8 (N4 rfl (A8 rfl V5))
theorem Cb1 (l : List B6) (hs : C9 B6.size l ≤ 4194304) : L7 308 [AV.list 2 (l.map B6.cs)] [] (fun x : Value × List Value => x.2.length = l.length) (fun x => .arr x.1 322 2 (J9 B6.ocs l x.2) :: nin B6.ow l x.2) (fun x => AV.is x.1) := by
 have hl : l.length ≤ 4194304 := L4 O2 hs;refine C6 func308 rfl ntmps308 rfl ?_;refine zq104 ?_;refine V0 322 2 rfl rfl rfl rfl I2 ?_;intro v3;refine R9 ?_;refine V8 [(2, _), (6, _), (7, _)] [] (fun (i : Nat) (v : Value) (xs : List Value) => i ≤ l.length ∧ xs.length = i) (fun i v xs => [.arr v 322 2 (J9 B6.ocs (l.take i) xs)] ++ (nin B6.ow (l.take i) xs)) (fun i v xs => [(3, AV.is v), (8, AV.int i)]) (fun i v xs => l.length - i) (0) (v3) ([]) ?_ (K5 B8 A4) ?_
 ·exact zq8
 intro i v xs hinv;refine G6 (S0 _) ?_;refine zK ?_ ?_
 ·intro h9 k9;have hlt : i < l.length := by omega
  obtain ⟨x, hx⟩ := B3 hlt;have hsx := Ab3 (L4 (Y4 hx) hs);refine zq0 ?_;intro b5;refine R2 ?_;refine O5 _ [(0, false), (1, false), (2, false), (4, false), (5, false), (3, true), (6, true), (7, false), (8, false), (9, true)] E6 E6 rfl (S1 1) ?_;refine R5 ?_;refine S8 rfl rfl rfl (AC5 2 <| AA1 rfl V2 y9) (fun a _ => qz4) ?_;intro v15 _;refine S8 rfl rfl rfl (U8 2 (fun _ => rfl) (L9 (by' := 32) 2 rfl V2 type325 rfl rfl rfl rfl rfl rfl zA zA rfl qz3)) (fun a _ => qz4) ?_;intro v18_1 hone_v18_1;have one_v18_1 := hone_v18_1.2;refine P7 rfl rfl rfl (fun ext => i6 (places := #[(0, 1), (1, 1)]) rfl V4 zeroValue322 (fun w => by kernel_rfl) rfl (D7 zA (n6 _) (D7 zA (L2 one_v18_1) V1)) rfl) ?_;refine R1 ?_;refine S8 rfl rfl rfl (L9 (by' := 40) 1 rfl D6 type322 rfl rfl rfl rfl rfl rfl zA zA rfl (by rw [U3 BQ4, W7, H4]; omega)) (fun a _ => qz4) ?_;intro v21_2 _;refine R3 ?_;refine zL [0, 0, 0] ?_;refine AWP.le (S6 2 (t := nin B6.ow (l.take (i + 1)) (xs ++ [v18_1])) (Ag0 (ow := B6.ow) (x := v18_1) hx hinv.2)) ?_;refine R4 ?_;refine P6 i v xs (i + 1) (v21_2) (xs ++ [v18_1]) ?_ ?_ (C7 1 (Eq.trans (by exact E5 (fun z => Own.arr _ _ _ z :: _) (AY9 hx hinv.2)) (S0 _).symm) A4)
  ·exact ⟨by omega, by rw [G3, hinv.2]; rfl⟩
  omega
 intro h9 k9;have hge : i = l.length := by omega
 have hxs := hinv.2.trans hge;rw [show l.take i = l from T4 qz8];refine R7 ?_;exact G8 [0] 0 (nin B6.ow l xs) (v, xs) (hxs) rfl B8 (N4 rfl (A8 rfl V5))
theorem CJ0 (v vv : Value) (l : List (List AV)) (x : List AV) (hx2 : x.length = 2) (hl2 : ∀ r ∈ l, r.length = 2) (i : Nat) (hi : i ≤ l.length) (hl : l.length ≤ 4194304) : L7 297 [AV.is v, AV.int i, AV.is vv] [.arr v 322 2 l, .arr vv 322 2 [x]] (fun _ : Value => True) (fun v => [.arr v 322 2 (l.take i ++ x :: l.drop i)]) (fun v => AV.is v) := by
  have := CT7 v vv l x hx2 hl2 i hi hl;simpa only [List.map_id, id_eq] using this
theorem DW5 {l : List B6} {xs : List Value} : ∀ r ∈ J9 B6.ocs l xs, r.length = 2 := fun r hr => by
  unfold J9 at hr;obtain ⟨i, hi⟩ := i7 hr;rw [List.getElem?_zipWith] at hi;split at hi
  · injection hi with hi; subst hi; rfl
  · cases hi
theorem Ay2 {α : Type} {f : α → Nat} {l : List α} (i : Nat) : C9 f (l.take i) ≤ C9 f l := by
  have := Al6 (f := f) (l := l.take i) (r := l.drop i);rw [Ao8] at this; omega
theorem AV0 {α : Type} {f : α → Nat} {l : List α} {i : Nat} {x : α} (h : l[i]? = some x) : C9 f (l.take (i + 1)) = C9 f (l.take i) + (1 + f x) := by
  rw [W1, h, Al6];show _ + C9 f [x] = _
  rw [X7]; rfl
def Ba6 (A : List (List AV)) (k : Str) (vs : List (List AV)) (B : List (List AV)) (D : List Own) (o2 : List B6) (f : Value → List Value) : Prop :=
  ∀ y : Value, (f y).length = o2.length ∧ A ++ [AV.str k, AV.is y] :: B = J9 B6.ocs o2 (f y) ∧ (Own.arr y 325 3 vs :: D).Perm (nin B6.ow o2 (f y))
theorem CJ1 {o : List B6} {xs : List Value} {p : Nat} {c : B6} {y0 : Value} (hc : o[p]? = some c) (hy : xs[p]? = some y0) (hl : xs.length = o.length) (nv : Y8) :
    Ba6 (J9 B6.ocs (o.take p) (xs.take p)) c.Key (c.Vers.map Y8.cs ++ [Y8.cs nv]) (J9 B6.ocs (o.drop (p + 1)) (xs.drop (p + 1))) (nin B6.ow (o.eraseIdx p) (xs.eraseIdx p)) (o.set p ⟨c.Key, c.Vers ++ [nv]⟩) (fun y => xs.set p y) := fun y => by
  have hp := (G2.1 hc).1;have hx := (G2.1 hy).1;have hc' : (o.set p ⟨c.Key, c.Vers ++ [nv]⟩)[p]? = some ⟨c.Key, c.Vers ++ [nv]⟩ := AZ9 hp;have hy' : (xs.set p y)[p]? = some y := AZ9 hx;refine ⟨by rw [Z1, Z1, hl], ?_, ?_⟩
  · rw [AU3 hc' hy', List.take_set_of_le (N2 _), List.take_set_of_le (N2 _), List.drop_set_of_lt qz8, List.drop_set_of_lt qz8]
    rfl
  · have h := AX4 (ow := B6.ow) hc' hy'
    rw [List.eraseIdx_set_eq, List.eraseIdx_set_eq] at h;refine List.Perm.trans ?_ h.symm;unfold B6.ow;simp only [X8, j4, List.map_nil];exact List.Perm.refl _
theorem CJ2 {o : List B6} {xs : List Value} {p : Nat} (hp : p ≤ o.length) (hl : xs.length = o.length) (k : Str) (nv : Y8) :
    Ba6 ((J9 B6.ocs o xs).take p) k [Y8.cs nv] ((J9 B6.ocs o xs).drop p) (nin B6.ow o xs) (o.take p ++ ⟨k, [nv]⟩ :: o.drop p) (fun y => xs.take p ++ y :: xs.drop p) := fun y =>
  ⟨by rw [Cq5 qz8, Cq5 hp, hl], DW4 (ocs := B6.ocs) (p := ⟨k, [nv]⟩) hp hl, nin_ins (ow := B6.ow) (p := ⟨k, [nv]⟩) hp hl⟩
theorem BB6 {l o : List B6} {w : List A5} {t : Int} {i : Nat} {x : A5} (h : j3 l w t = j3 o (w.drop i) t) (hx : w[i]? = some x) (ht : ¬ t ≤ O9 o x.Key) : j3 l w t = j3 (AF2 o x t) (w.drop (i + 1)) t := by
  rw [h, J7 hx];unfold j3;rw [C5 (by simpa using ht)]
  cases w.drop (i + 1) <;> rfl
theorem Cq6 {l o : List B6} {w : List A5} {t : Int} {i : Nat} {x : A5} (h : j3 l w t = j3 o (w.drop i) t) (hx : w[i]? = some x) (ht : t ≤ O9 o x.Key) : j3 l w t = none := by
  rw [h, J7 hx];unfold j3;rw [D3 (by simpa using ht)]
theorem DF9 {l o : List B6} {w : List A5} {t : Int} {i : Nat} (h : j3 l w t = j3 o (w.drop i) t) (hi : w.length ≤ i) : j3 l w t = some o := by
  rw [h, n5 hi]; rfl
theorem Cq7 (l : List B6) (w : List A5) (t : Int) (ho : AP2 l) (hs : C9 B6.size l ≤ 1048576) (hw : C9 A5.size w ≤ 1048576) : L7 249 [AV.list 2 (l.map B6.cs), AV.list 3 (w.map A5.cs), AV.int t] [] (fun x : Value × List Value => x.2.length = (putCells l w t).1.length) (fun x => .arr x.1 322 2 (J9 B6.ocs (putCells l w t).1 x.2) :: nin B6.ow (putCells l w t).1 x.2) (fun x => AV.tup [AV.is x.1, AV.bool (putCells l w t).2]) := by
 have hwl : w.length ≤ 1048576 := L4 O2 hw;refine C6 func249 rfl ntmps249 rfl ?_;refine zq48 ?_;refine R5 ?_;refine Au9 [] 0 1 ([]) ([]) (fun zz => nin B6.ow l zz.2) rfl rfl rfl rfl call246 rfl rfl (show List.Perm ([]) (([]) ++ ([])) from List.Perm.refl _) (Bj0 l qz8) I4 (fun a => N3) ?_;intro x14 ok14;refine R10 ?_;refine AU2 [(2, _), (15, _), (16, _)] [] (fun (i : Nat) (v : Value) (q : List B6) (xs : List Value) => i ≤ w.length ∧ xs.length = q.length ∧ AP2 q ∧ C9 B6.size q ≤ 1048576 + 2 * C9 A5.size (w.take i) ∧ j3 l w t = j3 q (w.drop i) t) (fun i v q xs => [.arr v 322 2 (J9 B6.ocs q xs)] ++ (nin B6.ow q xs)) (fun i v q xs => [(8, AV.is v), (17, AV.int i)]) (fun i v q xs => w.length - i) (0) (x14.1) (l) (x14.2) ?_ (K5 (by rw [S0]; rfl) A4) ?_
 ·exact ⟨E2 _, ok14, ho, by omega, rfl⟩
 intro i v q xs hinv;have hlen := hinv.2.1;refine G6 (S0 _) ?_;refine zK ?_ ?_
 ·intro h18 k18;have hlt : i < w.length := by omega
  obtain ⟨x, hx⟩ := B3 hlt;have htk := Ay2 (f := A5.size) (l := w) i;have hso : C9 B6.size q ≤ 4194304 := by omega
  have hol : q.length ≤ 4194304 := L4 O2 hso;refine zq0 ?_;intro b10;refine R9 ?_;refine A1 rfl (m5 rfl call295 rfl (Ce9 q x.Key hinv.2.2.1 hso) (n8 _ _) (O6 (Al0 zA (Ag1 B6.lcM CE6 1 rfl (fun o ho => List.mem_of_mem_drop (i := 2) (show o ∈ nin B6.ow q xs from by first | exact ho | exact AL1 _ ho | exact AD3 _ ho | exact AD3 _ (AL1 _ ho) | exact AD3 _ (AD3 _ ho))))) (O6 (evb (A0 rfl)) o0))) ?_;refine zK ?_ ?_
  ·intro h26 k26;have he : putCells l w t = ([], false) := by unfold putCells; rw [Cq6 hinv.2.2.2.2 hx k26]
   rw [he];refine zq104 ?_;refine X3 322 2 ?_;first | exact I5 [0] ((E8), []) (rfl) rfl B8 AL5 | exact G8 [0] 2 (nin B6.ow q xs) ((E8), []) (rfl) rfl B8 AL5 | exact I5 [0] ((E8), xs) (hinv.2.1) rfl B8 AL5 | exact G8 [0] 2 (nin B6.ow q xs) ((E8), xs) (hinv.2.1) rfl B8 AL5
  intro h26 k26;refine R6 ?_;refine A1 rfl (m5 rfl call296 rfl (BH1 q x.Key qz8) (Aa8 (I6 (n8 _ _) (I6 (U2 _) V6))) (O6 (Al0 zA (Ag1 B6.lcM CE6 1 rfl (fun o ho => List.mem_of_mem_drop (i := 2) (show o ∈ nin B6.ow q xs from by first | exact ho | exact AL1 _ ho | exact AD3 _ ho | exact AD3 _ (AL1 _ ho) | exact AD3 _ (AD3 _ ho))))) (O6 (evb (A0 rfl)) o0))) ?_;refine zC ?_ ?_
  ·intro h35;have hn : Az3 q x.Key = false := by simpa using h35
   have hpl : AI9 q x.Key ≤ (J9 B6.ocs q xs).length := by rw [U3 hlen]; exact CR5 _ _
   have hA : ((J9 B6.ocs q xs).take (AI9 q x.Key)).length = AI9 q x.Key := by rw [H4]; omega
   obtain ⟨fx, hto⟩ : ∃ fx, Ba6 ((J9 B6.ocs q xs).take (AI9 q x.Key)) x.Key [Y8.cs ⟨t, x.Val, x.Gone⟩] ((J9 B6.ocs q xs).drop (AI9 q x.Key)) (nin B6.ow q xs) (AF2 q x t) fx := ⟨_, by unfold AF2; rw [pos_new hinv.2.2.1.1 hn]; exact CJ2 (CR5 _ _) hlen _ _⟩;refine R6 ?_;refine An9 rfl rfl rfl rfl D6 K0 zeroValue322 rfl rfl rfl rfl (D7 zA (i3 _) V1) rfl rfl ?_;intro v41;refine zI [2, 0] rfl call297 (CJ0 _ _ (J9 B6.ocs q xs) [AV.str x.Key, AV.nils] rfl DW5 (AI9 q x.Key) hpl (by rw [U3 hlen]; omega)) (A2 (A0 rfl) (A2 (A0 rfl) (A2 (A0 rfl) B0))) rfl ?_;intro x42 ok42;refine DR8 325 3 ?_;refine R2 ?_;refine zL [2, 1, 0] ?_;refine zq41 ?_;intro v57_2 _;refine R1 ?_;refine zq90 ?_;refine O4 2 rfl fun one_v57_2 => ?_;refine An8 1 rfl rfl rfl zA zA (L2 one_v57_2) rfl z7 hA rfl ?_;refine R1 ?_;refine zL [0, 0, 0] ?_;refine AWP.le (S6 2 (t := nin B6.ow (AF2 q x t) (fx v57_2)) ((hto v57_2).2.2)) ?_;refine zL [0] ?_;refine R4 ?_;refine AB7 i v q xs (i + 1) (x42) (AF2 q x t) (fx v57_2) ?_ ?_ (C7 1 (Eq.trans (by exact E5 (fun z => Own.arr _ _ _ z :: _) (hto v57_2).2.1) (S0 _).symm) A4)
   ·exact ⟨by omega, (hto _).1, Ab0 hinv.2.2.1 _ _, by have h8 := Ag4 q x t; have h9 := AV0 (f := A5.size) hx; omega, BB6 hinv.2.2.2.2 hx k26⟩
   omega
  intro h35;have hn : Az3 q x.Key = true := by simpa using h35
  obtain ⟨c, hc, hck, hins⟩ := pos_has hinv.2.2.1.1 hn ⟨t, x.Val, x.Gone⟩;have hpo := (G2.1 hc).1;obtain ⟨y, hy⟩ := B3 (show AI9 q x.Key < xs.length by omega);have hA := AT3 (ocs := B6.ocs) hc hy;obtain ⟨fx, hto⟩ : ∃ fx, Ba6 (J9 B6.ocs (q.take (AI9 q x.Key)) (xs.take (AI9 q x.Key))) c.Key (c.Vers.map Y8.cs ++ [Y8.cs ⟨t, x.Val, x.Gone⟩]) (J9 B6.ocs (q.drop (AI9 q x.Key + 1)) (xs.drop (AI9 q x.Key + 1))) (nin B6.ow (q.eraseIdx (AI9 q x.Key)) (xs.eraseIdx (AI9 q x.Key))) (AF2 q x t) fx := ⟨_, by have h7 := CJ1 hc hy hlen ⟨t, x.Val, x.Gone⟩; unfold AF2; rw [hins, ← hck]; rw [hck] at h7 ⊢; exact h7⟩;have hcs := Ab3 (L4 (Y4 hc) hso);rw [AU3 hc hy];refine AWP.le (S6 2 (t := (B6.ow c y) ++ (nin B6.ow (q.eraseIdx (AI9 q x.Key)) (xs.eraseIdx (AI9 q x.Key)))) (AX4 (ow := B6.ow) hc hy)) ?_;refine R1 ?_;refine zL [0, 0, 0] ?_;refine zq41 ?_;intro v57_3 _;refine R1 ?_;refine zq90 ?_;refine O4 2 rfl fun one_v57_3 => ?_;refine An8 1 rfl rfl rfl zA zA (L2 one_v57_3) rfl z7 hA rfl ?_;refine R1 ?_;refine zL [0, 0, 0] ?_;refine AWP.le (S6 2 (t := nin B6.ow (AF2 q x t) (fx v57_3)) ((hto v57_3).2.2)) ?_;refine zL [0] ?_;refine R4 ?_;refine AB7 i v q xs (i + 1) (v) (AF2 q x t) (fx v57_3) ?_ ?_ (C7 1 (Eq.trans (by exact E5 (fun z => Own.arr _ _ _ z :: _) (hto v57_3).2.1) (S0 _).symm) A4)
  ·exact ⟨by omega, (hto _).1, Ab0 hinv.2.2.1 _ _, by have h8 := Ag4 q x t; have h9 := AV0 (f := A5.size) hx; omega, BB6 hinv.2.2.2.2 hx k26⟩
  omega
 intro h18 k18;have hge : w.length ≤ i := by omega
 have hpe := DF9 hinv.2.2.2.2 hge;have htk := Ay2 (f := A5.size) (l := w) i;have hso : C9 B6.size q ≤ 4194304 := by omega
 refine R5 ?_;refine A1 rfl (m5 rfl call298 rfl (CT1 q hso) (U2 _) (O6 (Al0 zA (Ag1 B6.lcM CE6 0 rfl (fun o ho => List.mem_of_mem_drop (i := 1) (show o ∈ nin B6.ow q xs from by first | exact ho | exact AL1 _ ho | exact AD3 _ ho | exact AD3 _ (AL1 _ ho) | exact AD3 _ (AD3 _ ho))))) o0)) ?_;refine zC ?_ ?_
 ·intro h63;have he : putCells l w t = ([], false) := by unfold putCells; rw [hpe]; simp only; rw [D3 h63]
  rw [he];refine zq104 ?_;refine X3 322 2 ?_;first | exact I5 [0] ((E8), []) (rfl) rfl B8 AL5 | exact G8 [0] 1 (nin B6.ow q xs) ((E8), []) (rfl) rfl B8 AL5 | exact I5 [0] ((E8), xs) (hinv.2.1) rfl B8 AL5 | exact G8 [0] 1 (nin B6.ow q xs) ((E8), xs) (hinv.2.1) rfl B8 AL5
 intro h63;have he : putCells l w t = (q, true) := by unfold putCells; rw [hpe]; simp only; rw [C5 (by rw [h63]; decide)]
 rw [he];refine R8 ?_;first | exact I5 [0] (v, []) (rfl) rfl B8 AL5 | exact G8 [0] 0 (nin B6.ow q xs) (v, []) (rfl) rfl B8 AL5 | exact G8 [0] 0 (nin B6.ow q xs) (v, xs) (hinv.2.1) rfl B8 AL5
theorem DW6 (l : List B6) (w : List A5) (t : Int) (ho : AP2 l) (hs : C9 B6.size l ≤ 1048576) (hw : C9 A5.size w ≤ 1048576) (ht1 : 1 ≤ t) : L7 272 [AV.list 2 (l.map B6.cs), AV.list 3 (w.map A5.cs), AV.int t] [] (fun x : Value × List Value => x.2.length = (AK3 l w t).1.length) (fun x => .arr x.1 322 2 (J9 B6.ocs (AK3 l w t).1 x.2) :: nin B6.ow (AK3 l w t).1 x.2) (fun x => AV.tup [AV.is x.1, AV.bool (AK3 l w t).2]) := by
 have hwl : w.length ≤ 1048576 := L4 O2 hw;refine C6 func272 rfl ntmps272 rfl ?_;refine zq48 ?_;refine R5 ?_;refine Au9 [] 0 1 ([]) ([]) (fun zz => nin B6.ow l zz.2) rfl rfl rfl rfl call308 rfl rfl (show List.Perm ([]) (([]) ++ ([])) from List.Perm.refl _) (Cb1 l qz8) I4 (fun a => N3) ?_;intro x15 ok15;refine R10 ?_;refine AU2 [(2, _), (16, _), (17, _)] [] (fun (i : Nat) (v : Value) (q : List B6) (xs : List Value) => i ≤ w.length ∧ xs.length = q.length ∧ AP2 q ∧ C9 B6.size q ≤ 1048576 + 2 * C9 A5.size (w.take i) ∧ j3 l w t = j3 q (w.drop i) t) (fun i v q xs => [.arr v 322 2 (J9 B6.ocs q xs)] ++ (nin B6.ow q xs)) (fun i v q xs => [(8, AV.is v), (18, AV.int i)]) (fun i v q xs => w.length - i) (0) (x15.1) (l) (x15.2) ?_ (K5 (by rw [S0]; rfl) A4) ?_
 ·exact ⟨E2 _, ok15, ho, by omega, rfl⟩
 intro i v q xs hinv;have hlen := hinv.2.1;have hinvo := hinv;have hrl : (J9 B6.ocs q xs).length = q.length := U3 hlen;refine G6 (S0 _) ?_;refine zK ?_ ?_
 ·intro h19 k19;have hlt : i < w.length := by omega
  obtain ⟨x, hx⟩ := B3 hlt;have htk := Ay2 (f := A5.size) (l := w) i;have hso : C9 B6.size q ≤ 4194304 := by omega
  have hql : q.length ≤ 4194304 := L4 O2 hso;refine zq0 ?_;intro b10;refine R11 ?_;intro b11;refine R10 ?_;refine F8 [(2, _), (8, _), (10, _), (11, _), (16, _), (17, _), (18, _), (19, _), (20, _), (21, _), (22, _), (23, _), (24, _), (25, _), (26, _), (27, _), (28, _), (29, _)] _ (fun (j : Nat) => j ≤ q.length ∧ ∀ (a : Nat) (c : B6), j ≤ a → q[a]? = some c → Op.bytesLess x.Key c.Key = true) (fun j => []) (fun j => [(12, AV.int j)]) (fun j => j) (q.length) ?_ (H0 ⟨E5 (fun z : Nat => some (AV.int z)) hrl, A4⟩) ?_
  ·exact ⟨N2 _, fun a c ha hc => by have := (G2.1 hc).1; omega⟩
  intro j hinv;obtain ⟨c, hc0⟩ := Ai2 q (j - 1);obtain ⟨y, hy0⟩ : ∃ y, j - 1 < xs.length → xs[j - 1]? = some y := ⟨xs[j - 1]?.getD (.int .i64 0), fun h => by rw [P2 h]; rfl⟩;have hj1 : 0 < j → ((j : Int) - 1).toNat = j - 1 := fun _ => by omega
  have hrow0 : 0 < j → (J9 B6.ocs q xs)[((j : Int) - 1).toNat]? = some (B6.ocs c y) := fun h => by rw [hj1 h]; exact X6 (hc0 qz8) (hy0 qz8)
  refine R9 ?_;refine zq51 ?_;refine R2 ?_;refine S5 rfl (X0 rfl rfl rfl) (fun hc => CF3 rfl (A9 rfl hc) (A9 rfl hc)) ?_;refine zC ?_ ?_
  ·intro h42;have hgt : 0 < j ∧ Op.bytesLess x.Key c.Key = true := by rw [j8]; simpa using h42
   refine R7 ?_;refine Ap7 ?_;refine G5 j (j - 1) ?_ ?_ (H0 ⟨E5 (fun z : Int => some (AV.int z)) qz8, A4⟩)
   ·exact ⟨by omega, fun a c' ha hc' => if h9 : j ≤ a then hinv.2 a c' h9 hc' else (by have e : a = j - 1 := qz8; subst e; rw [hc0 qz8] at hc'; injection hc' with hc'; subst hc'; exact hgt.2)⟩
   omega
  intro h42;have hng : 0 < j → Op.bytesLess x.Key c.Key = false := fun h => by rw [j8]; simpa [h] using h42
  refine R10 ?_;refine zq51 ?_;refine zC ?_ ?_
  ·intro h57;have hf : 0 < j ∧ c.Key = x.Key := by simpa using h57
   have hc := hc0 qz8;have hy := hy0 qz8;have hins := Cn7 hinvo.2.2.1.1 hc hf.2 ⟨t, x.Val, x.Gone⟩;refine R6 ?_;refine A1 rfl (m5 rfl call312 rfl (BV9 q x.Key hinvo.2.2.1 hso) (n8 _ _) (O6 (Al0 zA (Ag1 B6.lcM CE6 2 rfl (fun o ho => List.mem_of_mem_drop (i := 3) (show o ∈ nin B6.ow q xs from by first | exact ho | exact AL1 _ ho | exact AD3 _ ho | exact AD3 _ (AL1 _ ho) | exact AD3 _ (AD3 _ ho))))) (O6 (evb (A0 rfl)) o0))) ?_;refine zK ?_ ?_
   ·intro h63 k63;have he : AK3 l w t = ([], false) := by unfold AK3; rw [Cq6 hinvo.2.2.2.2 hx k63]
    rw [he];refine zq104 ?_;refine X3 322 2 ?_;first | exact I5 [0] ((E8), []) (rfl) rfl B8 AL5 | exact G8 [0] 3 (nin B6.ow q xs) ((E8), []) (rfl) rfl B8 AL5 | exact I5 [0] ((E8), xs) (hinv.2.1) rfl B8 AL5 | exact G8 [0] 3 (nin B6.ow q xs) ((E8), xs) (hinv.2.1) rfl B8 AL5
   intro h63 k63;have hnt : ¬ t ≤ O9 q x.Key := k63;have hA : (J9 B6.ocs (q.take (j - 1)) (xs.take (j - 1))).length = ((j : Int) - 1).toNat := (AT3 (ocs := B6.ocs) hc hy).trans (hj1 hf.1).symm;obtain ⟨fx, hto⟩ : ∃ fx, Ba6 (J9 B6.ocs (q.take (j - 1)) (xs.take (j - 1))) c.Key (c.Vers.map Y8.cs ++ [Y8.cs ⟨t, x.Val, x.Gone⟩]) (J9 B6.ocs (q.drop (j - 1 + 1)) (xs.drop (j - 1 + 1))) (nin B6.ow (q.eraseIdx (j - 1)) (xs.eraseIdx (j - 1))) (AF2 q x t) fx := ⟨_, by have h7 := CJ1 hc hy hlen ⟨t, x.Val, x.Gone⟩; unfold AF2; rw [hins]; rw [hf.2] at h7 ⊢; exact h7⟩;have hcs := Ab3 (L4 (Y4 hc) hso);rw [AU3 hc hy];refine AWP.le (S6 3 (t := (B6.ow c y) ++ (nin B6.ow (q.eraseIdx (j - 1)) (xs.eraseIdx (j - 1)))) (AX4 (ow := B6.ow) hc hy)) ?_;refine R2 ?_;refine zL [0, 1, 1] ?_;refine O5 _ [(0, false), (1, false), (2, false), (3, false), (4, false), (5, false), (6, false), (7, false), (8, false), (9, false), (10, false), (11, true)] E6 E6 rfl (S1 2) ?_;refine R6 ?_;refine zq18 ?_;refine R2 ?_;refine S8 rfl rfl rfl (L9 (by' := 32) 2 rfl V2 type325 rfl rfl rfl rfl rfl rfl zA zA rfl qz3) (fun a _ => qz4) ?_;intro v75_2 _;refine R1 ?_;refine zq90 ?_;refine O4 2 rfl fun one_v75_2 => ?_;refine An8 1 rfl rfl rfl zA zA (L2 one_v75_2) rfl z7 hA rfl ?_;refine R2 ?_;refine G6 qz61 ?_;refine zL [0, 0, 1, 0] ?_;refine AWP.le (S6 3 (t := nin B6.ow (AF2 q x t) (fx v75_2)) ((hto v75_2).2.2)) ?_;refine R4 ?_;refine AB7 i v q xs (i + 1) (v) (AF2 q x t) (fx v75_2) ?_ ?_ (Le.trans (B4 [0, 1, 0] rfl) (C7 2 (Eq.trans (by first | exact E5 (fun z => Own.arr _ _ _ z :: _) (hto v75_2).2.1 | exact E5 (fun z => Own.arr _ _ _ z :: _) (by first | (rw [AO1, m6]; exact (hto v75_2).2.1) | (rw [m6]; exact (hto v75_2).2.1))) (S0 _).symm) A4))
   ·exact ⟨by omega, (hto _).1, Ab0 hinvo.2.2.1 _ _, by have h8 := Ag4 q x t; have h9 := AV0 (f := A5.size) hx; omega, BB6 hinvo.2.2.2.2 hx hnt⟩
   omega
  intro h57;have hnf : 0 < j → c.Key ≠ x.Key := fun h => by simpa [h] using h57
  obtain ⟨hins, hl0⟩ := scan_new hinvo.2.2.1.1 hinv.1 hinv.2 (fun z hz hzz => by rw [hc0 qz8] at hzz; injection hzz with hzz; subst hzz; rw [j8, hng hz]; simpa using fun e => hnf hz e.symm) ⟨t, x.Val, x.Gone⟩;have hnt : ¬ t ≤ O9 q x.Key := by rw [hl0]; omega
  obtain ⟨fx, hto⟩ : ∃ fx, Ba6 ((J9 B6.ocs q xs).take j) x.Key [Y8.cs ⟨t, x.Val, x.Gone⟩] ((J9 B6.ocs q xs).drop j) (nin B6.ow q xs) (AF2 q x t) fx := ⟨_, by unfold AF2; rw [hins]; exact CJ2 hinv.1 hlen _ _⟩;refine R2 ?_;refine AWP.le (AL9 [2] 8 rfl rfl (K3 (C2 (i := 0) rfl) F6) N7) ?_;refine R1 ?_;refine P4 rfl rfl rfl rfl D6 K0 ?_;intro v78;refine R2 ?_;refine A1 rfl (Cl7 rfl D6 K0 zA zA qz8 (by rw [hrl]; omega)) ?_;refine G1 (by' := 40) 0 rfl rfl rfl rfl D6 type322 rfl rfl rfl rfl rfl rfl zA zA rfl BU0 ?_;intro v82_3;refine R2 ?_;refine AWP.le (AL9 [0] 13 rfl rfl (K3 (C2 (i := 0) rfl) F6) N7) ?_;refine zL [0, 0] ?_;refine V9 _ 14 (.pure 1 (.pure 2 (.pure 3 (.pure 5 (.pure 6 (.pure 7 (.pure 12 (.e2 0 (.e2 4 (.e1 8 (.pure 9 (.pure 10 (.e1 11 (.e1 13 .nil))))) 8 (.pure 9 (.pure 10 (.e1 4 (.e1 11 (.e1 13 .nil)))))) 8 (.pure 9 (.pure 10 (.e1 0 (.e1 4 (.e1 11 (.e1 13 .nil)))))))))))))) E6 E6 rfl (S1 2) ?_;refine R2 ?_;refine M0 rfl rfl rfl (fun ext => Cl6 rfl D6 K0 zA zA qz8 (by rw [hrl]; omega)) ?_;refine R4 ?_;refine AP4 ?_ ?_
  ·refine J8 rfl rfl rfl (AC5 2 <| AA1 rfl D6 K0) (fun a _ => qz4) ?_;intro v83 _;refine AP4 ?_ ?_
   ·refine zq16 ?_;intro v87_4 _;refine R1 ?_;refine zq157 ?_;intro v91 hone_v91;have one_v91 := hone_v91.2;refine zq47 ?_;refine R2 ?_;refine zq16 ?_;intro v94_5 _;refine R1 ?_;refine zq16 ?_;intro v96_6 _;refine R3 ?_;refine G6 qz61 ?_;refine zL [0, 0, 0, 0] ?_;refine zq123 ?_;refine AB7 i v q xs (i + 1) (v96_6) (AF2 q x t) (fx v91) ?_ ?_ (Le.trans (B4 [0, 0, 0] rfl) (C7 2 (Eq.trans qz76 (S0 _).symm) A4))
    ·exact ⟨by omega, (hto _).1, Ab0 hinvo.2.2.1 _ _, by have h8 := Ag4 q x t; have h9 := AV0 (f := A5.size) hx; omega, BB6 hinvo.2.2.2.2 hx hnt⟩
    omega
   refine zq157 ?_;intro v91 hone_v91;have one_v91 := hone_v91.2;refine zq47 ?_;refine R2 ?_;refine zq16 ?_;intro v87_7 _;refine R1 ?_;refine zq16 ?_;intro v94_8 _;refine R1 ?_;refine zq16 ?_;intro v96_9 _;refine R3 ?_;refine G6 qz61 ?_;refine zL [0, 0, 0, 0] ?_;refine zq123 ?_;refine AB7 i v q xs (i + 1) (v96_9) (AF2 q x t) (fx v91) ?_ ?_ (Le.trans (B4 [0, 0, 0] rfl) (C7 2 (Eq.trans qz76 (S0 _).symm) A4))
   ·exact ⟨by omega, (hto _).1, Ab0 hinvo.2.2.1 _ _, by have h8 := Ag4 q x t; have h9 := AV0 (f := A5.size) hx; omega, BB6 hinvo.2.2.2.2 hx hnt⟩
   omega
  refine J8 rfl rfl rfl (U8 2 (fun _ => rfl) (AC5 2 <| Aw9 rfl V2 y9 zeroValue325 rfl rfl rfl rfl (D7 zA (i3 _) V1) rfl rfl)) (fun a _ => qz4) ?_;intro v91 hone_v91;have one_v91 := hone_v91.2;refine zq47 ?_;refine R2 ?_;refine J8 rfl rfl rfl (AC5 3 <| AA1 rfl D6 K0) (fun a _ => qz4) ?_;intro v83 _;refine R1 ?_;refine zq87 ?_;intro v87_10 _;refine R1 ?_;refine zq87 ?_;intro v94_11 _;refine R1 ?_;refine zq87 ?_;intro v96_12 _;refine R3 ?_;refine G6 qz61 ?_;refine zL [0, 0, 1, 0] ?_;refine zq123 ?_;refine AB7 i v q xs (i + 1) (v96_12) (AF2 q x t) (fx v91) ?_ ?_ (Le.trans (B4 [0, 0, 0] rfl) (C7 2 (Eq.trans qz76 (S0 _).symm) A4))
  ·exact ⟨by omega, (hto _).1, Ab0 hinvo.2.2.1 _ _, by have h8 := Ag4 q x t; have h9 := AV0 (f := A5.size) hx; omega, BB6 hinvo.2.2.2.2 hx hnt⟩
  omega
 intro h19 k19;have hge : w.length ≤ i := by omega
 have hpe := DF9 hinv.2.2.2.2 hge;have htk := Ay2 (f := A5.size) (l := w) i;have hso : C9 B6.size q ≤ 4194304 := by omega
 have he : AK3 l w t = (q, Az2 q) := by unfold AK3; rw [hpe]
 rw [he];refine R5 ?_;refine A1 rfl (m5 rfl call313 rfl (Bx6 q hso) (U2 _) (O6 (Al0 zA (Ag1 B6.lcM CE6 0 rfl (fun o ho => List.mem_of_mem_drop (i := 1) (show o ∈ nin B6.ow q xs from by first | exact ho | exact AL1 _ ho | exact AD3 _ ho | exact AD3 _ (AL1 _ ho) | exact AD3 _ (AD3 _ ho))))) o0)) ?_;refine R4 ?_;first | exact I5 [0] (v, []) (rfl) rfl B8 AL5 | exact G8 [0] 0 (nin B6.ow q xs) (v, []) (rfl) rfl B8 AL5 | exact G8 [0] 0 (nin B6.ow q xs) (v, xs) (hinv.2.1) rfl B8 AL5
end Go.PQ
namespace Go.M
open Go.AV
theorem Bo7 {h : D2} : ∀ {l : List D2} {p : Nat}, p ≤ l.length → (∀ i x, i < p → l[i]? = some x → x.Txn ≤ h.Txn) → (∀ x, l[p]? = some x → h.Txn < x.Txn) → Ab6 h l = l.take p ++ h :: l.drop p
  | [], p, hp, _, _ => by simp at hp; subst hp; rfl
  | g :: l, 0, _, _, h2 => by unfold Ab6; rw [D3 (h2 g rfl)]; rfl
  | g :: l, p + 1, hp, h1, h2 => by
    unfold Ab6;rw [C5 (by have := h1 0 g qz8 rfl; omega), Bo7 (by simpa using hp) (fun i x hi hx => h1 (i + 1) x qz8 AT1) (fun x hx => h2 x AT1)];rfl
theorem Bo8 {h : G7} : ∀ {l : List G7} {p : Nat}, p ≤ l.length → (∀ i x, i < p → l[i]? = some x → x.Txn ≤ h.Txn) → (∀ x, l[p]? = some x → h.Txn < x.Txn) → AX1 h l = l.take p ++ h :: l.drop p
  | [], p, hp, _, _ => by simp at hp; subst hp; rfl
  | g :: l, 0, _, _, h2 => by unfold AX1; rw [D3 (h2 g rfl)]; rfl
  | g :: l, p + 1, hp, h1, h2 => by
    unfold AX1;rw [C5 (by have := h1 0 g qz8 rfl; omega), Bo8 (by simpa using hp) (fun i x hi hx => h1 (i + 1) x qz8 AT1) (fun x hx => h2 x AT1)];rfl
theorem DG0 (l : List D2) (n : Int) : Aj3 l n ≤ l.length := Cn5 _ _ _ _ _ rfl (E2 _) (N2 _)
theorem DG1 (l : List G7) (n : Int) : BA2 l n ≤ l.length := Cn5 _ _ _ _ _ rfl (E2 _) (N2 _)
theorem insH_pos {l : List D2} (hs : l.Pairwise fun a b => a.Txn < b.Txn) {h : D2} (hn : BC4 l h.Txn = false) : Ab6 h l = l.take (Aj3 l h.Txn) ++ h :: l.drop (Aj3 l h.Txn) := by
  obtain ⟨h1, h2⟩ := CC5 (f := D2.Txn) hs h.Txn;rw [BM2 hs] at hn;refine Bo7 (DG0 _ _) (fun i x hi hx => by have := h1 i x hi hx; omega) fun x hx => ?_;have h3 := h2 x hx;have h4 := Ab2.1 hn x (C2 hx);omega
theorem insT_pos {l : List G7} (hs : l.Pairwise fun a b => a.Txn < b.Txn) {h : G7} (hn : CW2 l h.Txn = false) : AX1 h l = l.take (BA2 l h.Txn) ++ h :: l.drop (BA2 l h.Txn) := by
  obtain ⟨h1, h2⟩ := CC5 (f := G7.Txn) hs h.Txn;rw [BZ3 hs] at hn;refine Bo8 (DG1 _ _) (fun i x hi hx => by have := h1 i x hi hx; omega) fun x hx => ?_;have h3 := h2 x hx;have h4 := Be3.1 hn x (C2 hx);omega
theorem DW7 {l : List D2} {n : Int} (h : BC4 l n = true) : ∃ x, l[Aj3 l n]? = some x ∧ x.Txn = n := by
  unfold BC4 Am9 at h
  cases e : l[Aj3 l n]? with
  | none => rw [e] at h; cases h
  | some x => rw [e] at h; exact ⟨x, rfl, (BD8 _ _).1 (by simpa [hCmp] using h)⟩
theorem DW8 {l : List G7} {n : Int} (h : CW2 l n = true) : ∃ x, l[BA2 l n]? = some x ∧ x.Txn = n := by
  unfold CW2 Am9 at h
  cases e : l[BA2 l n]? with
  | none => rw [e] at h; cases h
  | some x => rw [e] at h; exact ⟨x, rfl, (BD8 _ _).1 (by simpa [tCmp] using h)⟩
theorem Cq8 {l : List D2} (hs : l.Pairwise fun a b => a.Txn < b.Txn) {i j : Nat} {x y : D2} (hx : l[i]? = some x) (hy : l[j]? = some y) (e : x.Txn = y.Txn) : i = j := by
  rcases Nat.lt_trichotomy i j with h | h | h
  · have := BM1 (f := D2.Txn) hs h hx hy; omega
  · exact h
  · have := BM1 (f := D2.Txn) hs h hy hx; omega
theorem DW9 {l : List D2} (hs : l.Pairwise fun a b => a.Txn < b.Txn) {i : Nat} {x : D2} (hx : l[i]? = some x) : AH7 l x.Txn = some x := by
  cases e : AH7 l x.Txn with
  | none =>
    rw [BJ0, Ab2] at e;exact (e x (C2 hx) rfl).elim
  | some y =>
    obtain ⟨h1, h2⟩ := Ao1 e;obtain ⟨j, hj⟩ := i7 h1;have := Cq8 hs hx hj h2.symm;subst this;rw [hx] at hj; exact hj.symm
theorem Cq9 {l : List D2} (hs : l.Pairwise fun a b => a.Txn < b.Txn) {i : Nat} {x : D2} (hx : l[i]? = some x) : AC1 l x.Txn = l.eraseIdx i := by
  have h1 : ∀ (l : List D2) (i : Nat) (x : D2), l[i]? = some x → (∀ j y, l[j]? = some y → y.Txn = x.Txn → j = i) → AC1 l x.Txn = l.eraseIdx i := by
    intro l;induction l with
    | nil => intro i x h; simp at h
    | cons g l ih =>
      intro i x h hu
      cases i with
      | zero =>
        simp at h; subst h;rw [Bb8];unfold AC1;rw [List.filter_cons_of_neg Y1, List.filter_eq_self];intro y hy;obtain ⟨j, hj⟩ := i7 hy;simp only [Ay7, ne_eq];intro e;have := hu (j + 1) y (by simpa using hj) e;omega
      | succ i =>
        rw [BQ7, ← ih i x Aj4 fun j y hj e => by have := hu (j + 1) y (by simpa using hj) e; omega];unfold AC1;rw [List.filter_cons_of_pos];simp only [Ay7, ne_eq];intro e;have := hu 0 g rfl e;omega
  exact h1 l i x hx fun j y hj e => Cq8 hs hj hx e
theorem Cr0 {l : List D2} {n : Int} (h : AX0 l n = false) : AC1 l n = l := by
  unfold AC1;rw [List.filter_eq_self];intro y hy;simpa using Ab2.1 h y hy
def D2.ocs (h : D2) (x : Value × Value) : List AV := [AV.int h.Txn, AV.int h.Time, AV.int h.Lead, AV.is x.1, AV.is x.2]
def E9.ocs (s : E9) (x : Value × Value) : List AV := [AV.int s.Floor, AV.list 2 (s.Cells.map B6.cs), AV.is x.1, AV.is x.2]
def BC5 (s : E9) (r : N9) : E9 × Bool :=
  if r.Yes = true then (match AH7 s.Held r.Txn with
    | none => (U9, false)
    | some h => if r.Time < h.Time then (U9, false) else if (AK3 s.Cells h.Writes r.Time).2 = true then (AQ1 s r (if s.Floor < r.Time then r.Time else s.Floor) (AK3 s.Cells h.Writes r.Time).1, true) else (U9, false))
  else (AQ1 s r s.Floor s.Cells, true)
def AR1 (s : E9) (r : N9) : E9 × Bool := if (W6 s r).2 = true then ((W6 s r).1, true) else (U9, false)
theorem appR_dec {s : E9} {r : N9} (h4 : r.Kind ≠ 4) (hT : AT8 s.Told r.Txn = false) (h1 : r.Kind ≠ 1) : AR1 s r = BC5 s r := by
  unfold AR1 BC5 W6;rw [C5 h4, C5 (show ¬ AT8 s.Told r.Txn = true by rw [hT]; decide), C5 h1];by_cases hy : r.Yes = true
  · rw [D3 hy, D3 hy]
    cases AH7 s.Held r.Txn with
    | none => rfl
    | some h =>
      dsimp only;split
      · rfl
      · split
        · rfl
        · rfl
  · rw [C5 hy, C5 hy]; rfl
end Go.M
namespace Go.PQ
open Go.Proofs Go.Proofs.Tryz
open Go Go.AV Go.M
def D2.ow (h : D2) (x : Value × Value) : List Own := [.arr x.1 9 1 (h.Reads.map fun k => [AV.str k]), .arr x.2 82 3 (h.Writes.map A5.cs)]
def E9.ow (s : E9) (x : Value × Value) : List Own := [.arr x.1 256 5 (s.Held.map D2.cs), .arr x.2 62 3 (s.Told.map G7.cs)]
theorem D2.lc (h : D2) (x : Value × Value) : AH5 (D2.ow h x) (D2.ocs h x) h.cs :=
  C1 E4 (C1 E4 (C1 E4 (C1 (K3 (C2 (i := 0) rfl) F6) (C1 (K3 (C2 (i := 1) rfl) F6) Y2))))
theorem E9.lc (s : E9) (x : Value × Value) : AH5 (E9.ow s x) (E9.ocs s x) s.cs :=
  C1 E4 (C1 E4 (C1 (K3 (C2 (i := 0) rfl) F6) (C1 (K3 (C2 (i := 1) rfl) F6) Y2)))
attribute [local irreducible] OpW OpA OpS AWP K6 L8 K8 OpE K7 I7 L1 Le Ev G4 M7 Int.tmod Int.tdiv IntKind.wrap
theorem DL9 (h k : D2) (h1 : h.Writes.length ≤ 4611686018427387903) (ha : adj T9 h.Writes = true) (hk : adj T9 k.Writes = true ∧ k.Writes.length ≤ 4611686018427387903) : E1 255 [AV.agg k.cs, AV.eptr h.cs] (AV.bool (Az4 h k)) := by
  obtain ⟨ka, k1⟩ := hk;refine B2 func255 rfl ntmps255 rfl ?_;refine R3 ?_;intro b2;refine R6 ?_;refine zF rfl call256 (DL7 _ _ W5 W5 AK2 AK2) (A2 (A0 rfl) (A2 (A0 rfl) B0)) ?_;exact zq136
theorem CJ3 (l : List B6) (hs : C9 B6.size l ≤ 4194304) : E1 246 [AV.list 2 (l.map B6.cs)] (AV.list 2 (l.map B6.cs)) :=
  N1 (Bj0 l hs) fun x h => Ag1 B6.lcM h 0 rfl fun o ho => S7 _ ho
theorem CT8 (l : List B6) (w : List A5) (t : Int) (ho : AP2 l) (hs : C9 B6.size l ≤ 1048576) (hw : C9 A5.size w ≤ 1048576) : E1 249 [AV.list 2 (l.map B6.cs), AV.list 3 (w.map A5.cs), AV.int t] (AV.tup [AV.list 2 ((putCells l w t).1.map B6.cs), AV.bool (putCells l w t).2]) :=
  N1 (Cq7 l w t ho hs hw) fun x h => AV2 (C1 (Ag1 B6.lcM h 0 rfl fun o ho => S7 _ ho) (C1 E4 Y2))
theorem DM0 (r : N9) (hs : r.size ≤ 1048576) : L7 220 [AV.agg r.cs] [] (fun _ : Value × Value => True) (fun x => D2.ow (hOf r) x) (fun x => AV.agg (D2.ocs (hOf r) x)) := by
 obtain ⟨hr1, hr2, hr3, hr4⟩ := Bo5 hs;refine C6 func220 rfl ntmps220 rfl ?_;refine R3 ?_;intro b1;refine R1 ?_;intro b2;refine R2 ?_;refine O5 _ [(0, false), (1, false), (2, false), (3, false), (4, false), (5, false), (6, false), (7, false), (9, false), (10, false), (8, true), (11, true)] E6 E6 rfl Ae8 ?_;refine R10 ?_;refine S8 rfl rfl rfl (P3 [] rfl call261 rfl (CC3 _ W5) (A2 (A0 rfl) B0) rfl) (fun a _ => qz4) ?_;intro x11 ok11;refine S8 rfl rfl rfl (P3 [] rfl call262 rfl (CI5 _ W5) (A2 (A0 rfl) B0) rfl) (fun a _ => qz4) ?_;intro x14 ok14;refine R1 ?_;refine O4 2 rfl fun one_x11 => ?_;refine O4 3 rfl fun one_x14 => ?_;refine A1 rfl (i6 (places := #[(0, 1), (1, 1), (2, 1), (3, 1), (4, 1)]) rfl underlying256 zeroValue256 (fun w => by kernel_rfl) rfl (D7 zA (W9 _ _) (D7 zA (W9 _ _) (D7 zA (W9 _ _) (D7 zA (L2 one_x11) (D7 zA (L2 one_x14) V1))))) rfl) ?_;refine R3 ?_;exact I5 [2, 2] (x11, x14) (trivial) rfl B8 (N4 rfl (F5 (ys := _) 0 rfl rfl Ad4 N8 rfl))
theorem By0 (r : N9) (hs : r.size ≤ 1048576) : E1 220 [AV.agg r.cs] (AV.agg (hOf r).cs) :=
  N1 (DM0 r hs) fun x _ => AQ5 (D2.lc _ x)
theorem Bj1 (h : D2) (hs : h.size ≤ 1048576) : E1 248 [AV.agg h.cs] (AV.agg h.cs) := by
  refine B2 func248 rfl ntmps248 rfl ?_;refine R3 ?_;intro b1;refine R1 ?_;intro b2;refine R4 ?_;refine zF rfl call294 (rec_spec _) I4 ?_;refine zF rfl call220 (By0 (Ab5 h) hs) I4 ?_;refine R3 ?_;exact D5 rfl (F5 (ys := _) 0 rfl rfl Ad4 N8 rfl)
theorem BH2 (s : E9) (hs : s.size ≤ 1048576) : L7 215 [AV.agg s.cs] [] (fun _ : Value × Value => True) (fun x => E9.ow s x) (fun x => AV.agg (E9.ocs s x)) := by
 obtain ⟨hs1, hs2, hs3, hs4, hs5⟩ := AG7 hs;refine C6 func215 rfl ntmps215 rfl ?_;refine R3 ?_;intro b1;refine R1 ?_;intro b2;refine R2 ?_;refine V9 _ 10 (.pure 0 (.pure 1 (.pure 2 (.pure 3 (.pure 4 (.pure 5 (.pure 6 (.e2 7 (.pure 8 (.e1 9 .nil)) 9 (.e1 7 (.pure 8 .nil)))))))))) E6 E6 rfl Ae8 ?_;refine R4 ?_;refine M0 rfl rfl rfl (fun ext => zG rfl call246 (CJ3 s.Cells qz8) I4) ?_;refine R2 ?_;refine AP4 ?_ ?_
 ·refine J8 rfl rfl rfl (U8 2 (fun _ => rfl) (P3 [] rfl call247 rfl (BZ0 _ W5) (A2 (A0 rfl) B0) rfl)) (fun a _ => qz4) ?_;intro x13 ok13;have one_x13 := ok13.2
  replace ok13 := ok13.1
  refine zq96 ?_;refine R1 ?_;refine zq77 ?_;intro b3 _;refine R12 ?_;refine l9 256 5 ?_;refine zL [4, 0] ?_;refine J5 [(2, _), (3, _), (16, _), (17, _)] _ (fun (i : Nat) (v : Value) => i ≤ s.Held.length) (fun i v => [.box b3 60 [AV.int s.Floor, AV.list 2 (s.Cells.map B6.cs), AV.is v, AV.is x13], .arr v 256 5 ((s.Held.take i).map D2.cs)]) (fun i v => [(18, AV.int i)]) (fun i v => s.Held.length - i) (0) ((E8)) ?_ (K5 B8 A4) ?_
  ·exact E2 _
  intro i v hinv;refine zK ?_ ?_
  ·intro h19 k19;have hlt : i < s.Held.length := by omega
   obtain ⟨h, hx⟩ := B3 hlt;obtain ⟨g1, g2, g3, g4, g5⟩ := AQ6 hs2 hx;refine zq0 ?_;intro b5;refine R2 ?_;refine zq115 ?_;intro v27_1;refine R1 ?_;refine O4 2 rfl fun one_v27_1 => ?_;refine M4 1 rfl rfl rfl zA zA (L2 one_v27_1) rfl AM3 rfl ?_;refine R5 ?_;refine G0 i v (i + 1) (v27_1) ?_ ?_ (Le.trans (B4 [0, 0, 0] rfl) (C7 1 (by exact E5 (fun z => Own.box b3 60 [AV.int s.Floor, AV.list 2 (s.Cells.map B6.cs), AV.is v27_1, AV.is x13] :: Own.arr v27_1 256 5 z :: _) (AS1 (f := D2.cs) hx)) A4))
   ·omega
   omega
  intro h19 k19;have hge : i = s.Held.length := by omega
  rw [hge, AM2];exact zq183
 refine zq77 ?_;intro b3 _;refine R1 ?_;refine J8 rfl rfl rfl (U8 3 (fun _ => rfl) (P3 [] rfl call247 rfl (BZ0 _ W5) (A2 (A0 rfl) B0) rfl)) (fun a _ => qz4) ?_;intro x13 ok13;have one_x13 := ok13.2
 replace ok13 := ok13.1
 refine zq96 ?_;refine R12 ?_;refine l9 256 5 ?_;refine zL [3, 0] ?_;refine J5 [(2, _), (3, _), (16, _), (17, _)] _ (fun (i : Nat) (v : Value) => i ≤ s.Held.length) (fun i v => [.box b3 60 [AV.int s.Floor, AV.list 2 (s.Cells.map B6.cs), AV.is v, AV.is x13], .arr v 256 5 ((s.Held.take i).map D2.cs)]) (fun i v => [(18, AV.int i)]) (fun i v => s.Held.length - i) (0) ((E8)) ?_ (K5 B8 A4) ?_
 ·exact E2 _
 intro i v hinv;refine zK ?_ ?_
 ·intro h19 k19;have hlt : i < s.Held.length := by omega
  obtain ⟨h, hx⟩ := B3 hlt;obtain ⟨g1, g2, g3, g4, g5⟩ := AQ6 hs2 hx;refine zq0 ?_;intro b5;refine R2 ?_;refine zq115 ?_;intro v27_2;refine R1 ?_;refine O4 2 rfl fun one_v27_2 => ?_;refine M4 1 rfl rfl rfl zA zA (L2 one_v27_2) rfl AM3 rfl ?_;refine R5 ?_;refine G0 i v (i + 1) (v27_2) ?_ ?_ (Le.trans (B4 [0, 0, 0] rfl) (C7 1 (by exact E5 (fun z => Own.box b3 60 [AV.int s.Floor, AV.list 2 (s.Cells.map B6.cs), AV.is v27_2, AV.is x13] :: Own.arr v27_2 256 5 z :: _) (AS1 (f := D2.cs) hx)) A4))
  ·omega
  omega
 intro h19 k19;have hge : i = s.Held.length := by omega
 rw [hge, AM2];exact zq183
theorem DM1 (l : List B6) (w : List A5) (t : Int) : (putCells l w t).2 = (AK3 l w t).2 ∧ ((AK3 l w t).2 = true → (putCells l w t).1 = (AK3 l w t).1) := by
  rw [Cx5]
  cases h : (AK3 l w t).2 <;> simp
theorem Cz0 (s : E9) (r : N9) (hg : AA6 s.Cells = true) (hsr : s.Held.Pairwise fun a b => a.Txn < b.Txn) (htr : s.Told.Pairwise fun a b => a.Txn < b.Txn) (hT : AT8 s.Told r.Txn = false) (hs : s.size ≤ 1048576) : L7 216 [AV.agg s.cs, AV.agg r.cs] [] (fun _ : Value × Value => True) (fun x => E9.ow (BC5 s r).1 x) (fun x => AV.tup [AV.agg (E9.ocs (BC5 s r).1 x), AV.bool (BC5 s r).2]) := by
 obtain ⟨hs1, hs2, hs3, hs4, hs5⟩ := AG7 hs;have hco := Ac9 hg;have hins : AX1 ⟨r.Txn, r.Yes, r.Time⟩ s.Told = s.Told.take (BA2 s.Told r.Txn) ++ ⟨r.Txn, r.Yes, r.Time⟩ :: s.Told.drop (BA2 s.Told r.Txn) := insT_pos htr (by rw [BZ3 htr]; exact hT);obtain ⟨h, hh0⟩ : ∃ h, BC4 s.Held r.Txn = true → s.Held[Aj3 s.Held r.Txn]? = some h ∧ h.Txn = r.Txn := by
  cases e : BC4 s.Held r.Txn with
  | true => obtain ⟨x, h1, h2⟩ := DW7 e; exact ⟨x, fun _ => ⟨h1, h2⟩⟩
  | false => exact ⟨⟨0, 0, 0, [], []⟩, fun h => by cases h⟩
 have hfd : BC4 s.Held r.Txn = true → AH7 s.Held r.Txn = some h := fun e => by obtain ⟨h1, h2⟩ := hh0 e; have := DW9 hsr h1; rw [h2] at this; exact this
 have hfn : BC4 s.Held r.Txn = false → AH7 s.Held r.Txn = none := fun e => by rw [BM2 hsr] at e; exact BJ0.2 e
 have hrow : BC4 s.Held r.Txn = true → (s.Held.map D2.cs)[((Aj3 s.Held r.Txn : Nat) : Int).toNat]? = some h.cs := fun e => by rw [AA4, Z5, (hh0 e).1]; rfl
 have hplt : BC4 s.Held r.Txn = true → Aj3 s.Held r.Txn < s.Held.length := fun e => (G2.1 (hh0 e).1).1;have htle := DG1 s.Told r.Txn;refine C6 func216 rfl ntmps216 rfl ?_;refine R3 ?_;intro b2;refine R1 ?_;intro b3;refine R1 ?_;intro b4;refine R5 ?_;refine zI [] rfl call215 (BH2 s hs) I4 rfl ?_;intro x14 ok14;refine R1 ?_;intro b6;refine R3 ?_;refine G6 Aa7 ?_;refine R4 ?_;refine A1 rfl (m5 rfl call217 rfl (Bi8 s r.Txn hs5) (Aa8 (I6 (n8 _ _) (I6 (U2 _) V6))) (O6 (Al0 zA (AQ5 (C1 E4 (C1 E4 (C1 (K3 (C2 (i := 1) rfl) F6) (C1 (K3 (C2 (i := 2) rfl) F6) Y2)))))) Aw3)) ?_;refine zC ?_ ?_
 ·intro h23;refine R9 ?_;refine S5 rfl (i5 rfl rfl rfl) (fun hc => I3 1 rfl G9 N8 (A9 rfl hc) rfl (A9 rfl hc) qz8 (by have := hplt Ba8; simp only [A7]; omega)) ?_;refine S5 rfl (i5 rfl rfl rfl) (fun hc => L5 1 rfl underlying256 rfl F2 (A9 rfl hc) rfl rfl (hrow Ba8)) ?_;refine S5 rfl (i5 rfl rfl rfl) (fun hc => N5 1 rfl (A9 rfl hc) rfl Q4 (hrow Ba8) rfl) ?_;refine zC ?_ ?_
  ·intro h36;have hdec : BC5 s r = (U9, false) := by (unfold BC5; rw [D3 h23]; cases e : BC4 s.Held r.Txn with | false => (rw [hfn e]) | true => (rw [hfd e]; dsimp only; rw [D3 (by rw [e] at h36; simpa using h36)]))
   rw [hdec];refine R7 ?_;exact zq91
  intro h36;simp only [AE4, AJ5, AH1] at h36;obtain ⟨hhas, hnlt⟩ := h36;have hlt := hplt hhas;obtain ⟨g1, g2, g3, g4, g5⟩ := AQ6 hs2 (hh0 hhas).1;have hpc := DM1 s.Cells h.Writes r.Time;refine R8 ?_;refine B7 rfl rfl (I3 1 rfl G9 N8 zA rfl zA qz8 AF3) ?_;refine B7 rfl rfl (L5 1 rfl underlying256 rfl Ad6 zA rfl rfl (hrow hhas)) ?_;refine B7 rfl rfl (N5 1 rfl zA rfl isAgg43 (hrow hhas) rfl) ?_;refine R2 ?_;refine B7 rfl rfl (zG rfl call249 (CT8 s.Cells h.Writes r.Time hco hs1 qz8) AJ2) ?_;refine R8 ?_;refine G6 Aa7 ?_;refine zC ?_ ?_
  ·intro h53;have hdec : BC5 s r = (U9, false) := by (unfold BC5; rw [D3 h23, hfd hhas]; dsimp only; rw [C5 qz8, C5 (by rw [← hpc.1]; simpa using h53)])
   rw [hdec];refine R7 ?_;exact zq91
  intro h53;have hok : (putCells s.Cells h.Writes r.Time).2 = true := by simpa using h53
  have hdec : BC5 s r = (AQ1 s r (if s.Floor < r.Time then r.Time else s.Floor) (putCells s.Cells h.Writes r.Time).1, true) := by (unfold BC5; rw [D3 h23, hfd hhas]; dsimp only; rw [C5 qz8, D3 (by rw [← hpc.1]; exact hok), hpc.2 (by rw [← hpc.1]; exact hok)])
  refine R12 ?_;refine A1 rfl (w_max rfl zA zA) ?_;refine R5 ?_;refine G6 Aa7 ?_;refine zC ?_ ?_
  ·intro h63;have hless : AC1 s.Held r.Txn = s.Held.eraseIdx (Aj3 s.Held r.Txn) := by (rw [← (hh0 h63).2]; exact Cq9 hsr (hh0 h63).1 ▸ by rw [(hh0 h63).2])
   rw [hdec];unfold AQ1;rw [hless, hins];have hlt2 := hplt h63;refine zq177 ?_;intro x69 ok69;refine R1 ?_;refine O4 0 rfl fun one_x69 => ?_;refine zq59 ?_;refine zq34 ?_;intro v88;refine zq20 ?_;intro x89 ok89;refine R1 ?_;refine O4 0 rfl fun one_x89 => ?_;exact zq93
  intro h63;have hless : AC1 s.Held r.Txn = s.Held := Cr0 (by rw [← BM2 hsr]; exact h63);rw [hdec];unfold AQ1;rw [hless, hins];refine zq70 ?_;intro v88;refine zq20 ?_;intro x89 ok89;refine R1 ?_;refine O4 0 rfl fun one_x89 => ?_;exact zq81
 intro h23;have hdec : BC5 s r = (AQ1 s r s.Floor s.Cells, true) := by (unfold BC5; rw [C5 (by rw [h23]; decide)])
 refine R3 ?_;refine G6 Aa7 ?_;refine zC ?_ ?_
 ·intro h63;have hless : AC1 s.Held r.Txn = s.Held.eraseIdx (Aj3 s.Held r.Txn) := by (rw [← (hh0 h63).2]; exact Cq9 hsr (hh0 h63).1 ▸ by rw [(hh0 h63).2])
  rw [hdec];unfold AQ1;rw [hless, hins];have hlt2 := hplt h63;refine zq177 ?_;intro x69 ok69;refine R1 ?_;refine O4 0 rfl fun one_x69 => ?_;refine zq59 ?_;refine zq34 ?_;intro v88;refine zq20 ?_;intro x89 ok89;refine R1 ?_;refine O4 0 rfl fun one_x89 => ?_;exact zq93
 intro h63;have hless : AC1 s.Held r.Txn = s.Held := Cr0 (by rw [← BM2 hsr]; exact h63);rw [hdec];unfold AQ1;rw [hless, hins];refine zq70 ?_;intro v88;refine zq20 ?_;intro x89 ok89;refine R1 ?_;refine O4 0 rfl fun one_x89 => ?_;exact zq81
end Go.PQ
namespace Go.M
open Go.AV
theorem DG2 (s : E9) (r : N9) : (AR1 s r).2 = (W6 s r).2 ∧ ((W6 s r).2 = true → (AR1 s r).1 = (W6 s r).1) := by
  unfold AR1; cases h : (W6 s r).2 <;> simp
theorem DX0 (s : E9) (r : N9) : (if (AR1 s r).2 = true then (AR1 s r).1 else s) = AJ9 s r := by
  unfold AJ9 AR1; cases h : (W6 s r).2 <;> simp
theorem Cz1 {s : E9} {l : List N9} {i : Nat} {r : N9} (h : l[i]? = some r) : Y3 s (l.take (i + 1)) = AJ9 (Y3 s (l.take i)) r := by
  unfold Y3;rw [W1, h, List.foldl_append]; rfl
theorem BZ4 : ∀ {l : List N9} {s : E9} {r : N9}, Ae1 s (l ++ [r]) = Ae1 s l ++ [(W6 (Y3 s l) r).2]
  | [], s, r => rfl
  | x :: l, s, r => by
    show _ :: Ae1 (AJ9 s x) (l ++ [r]) = _
    rw [BZ4]; rfl
theorem Ay3 {s : E9} {l : List N9} {i : Nat} {r : N9} (h : l[i]? = some r) : Ae1 s (l.take (i + 1)) = Ae1 s (l.take i) ++ [(W6 (Y3 s (l.take i)) r).2] := by
  rw [W1, h]; exact BZ4
def phi (s : E9) : Nat := C9 B6.size s.Cells + 3 * C9 D2.size s.Held + s.Told.length
theorem Cr1 (s : E9) : s.size ≤ phi s := by
  have h1 : s.size = C9 B6.size s.Cells + C9 D2.size s.Held + s.Told.length := rfl;unfold phi; omega
theorem DM2 {α : Type} {f : α → Nat} {a b : List α} (h : a.Perm b) : C9 f a = C9 f b := by
  unfold C9; rw [h.length_eq, (h.map f).sum_nat]
theorem Cr2 {t : Int} : ∀ {w : List A5} {l q : List B6}, j3 l w t = some q → C9 B6.size q ≤ C9 B6.size l + 2 * C9 A5.size w
  | [], l, q, h => by simp [j3] at h; subst h; omega
  | x :: w, l, q, h => by
    unfold j3 at h;split at h
    · cases h
    · have h1 := Cr2 h
      have h2 := Ag4 l x t;rw [X7]; omega
theorem DM3 {l : List D2} {n : Int} {h : D2} (hf : AH7 l n = some h) : C9 D2.size (AC1 l n) + (1 + h.size) ≤ C9 D2.size l := by
  induction l with
  | nil => simp [AH7] at hf
  | cons g l ih =>
    unfold AH7 at hf ih;rw [List.find?_cons] at hf;unfold AC1 at ih ⊢;by_cases e : g.Txn = n
    · rw [i8.2 e] at hf
      injection hf with hf; subst hf
      rw [List.filter_cons_of_neg (by simp [e]), X7];have : C9 D2.size (l.filter fun h => h.Txn != n) ≤ C9 D2.size l := by
        clear ih;induction l with
        | nil => exact N2 _
        | cons y l ih =>
          rw [List.filter_cons];split
          · rw [X7, X7]; omega
          · rw [X7]; omega
      omega
    · rw [beq_eq_false_iff_ne.2 e] at hf
      rw [List.filter_cons_of_pos (by simp [e]), X7, X7];have := ih hf; omega
theorem Cz2 (l : List D2) (n : Int) : C9 D2.size (AC1 l n) ≤ C9 D2.size l := by
  induction l with
  | nil => exact N2 _
  | cons y l ih =>
    unfold AC1 at ih ⊢;rw [List.filter_cons];split
    · rw [X7, X7]; omega
    · rw [X7]; omega
theorem DX1 (s : E9) (r : N9) : phi (W6 s r).1 ≤ phi s + 3 * (1 + r.size) + 1 := by
  have hh : (hOf r).size = r.size := rfl;have hins : C9 D2.size (Ab6 (hOf r) s.Held) = 1 + r.size + C9 D2.size s.Held := by rw [DM2 (BF6 _ _), X7, hh]
  have htl : ∀ t : G7, (AX1 t s.Told).length = s.Told.length + 1 := fun t => by rw [(Bn0 _ _).length_eq]; rfl
  have h2 := Cz2 s.Held r.Txn;unfold W6;split
  · unfold phi; dsimp only; omega
  · split
    · dsimp only; omega
    · split
      · unfold phi; dsimp only; rw [hins]; omega
      · split
        · cases hf : AH7 s.Held r.Txn with
          | none => dsimp only; omega
          | some h =>
            dsimp only;split
            · dsimp only; omega
            · split
              · rename_i hp
                have h3 := Cr2 (Bt6 hp).1;have h4 := DM3 hf;have h5 : h.size = C9 (fun x => x.length) h.Reads + C9 A5.size h.Writes := rfl;unfold AQ1 phi; dsimp only; rw [htl]; omega
              · dsimp only; omega
        · unfold AQ1 phi; dsimp only; rw [htl]; omega
theorem phi_step (s : E9) (r : N9) : phi (AJ9 s r) ≤ phi s + 3 * (1 + r.size) + 1 := by
  unfold AJ9;split
  · exact DX1 s r
  · omega
theorem CC7 {m : Nat} : ∀ {l : List N9} {s : E9}, (∀ r ∈ l, r.size ≤ m) → phi (Y3 s l) ≤ phi s + l.length * (3 * (1 + m) + 1)
  | [], s, _ => by simp [Y3]
  | r :: l, s, h => by
    have h1 := phi_step s r;have h2 := CC7 (l := l) (s := AJ9 s r) fun x hx => h x (S7 _ hx);have h3 := h r a8;have h4 : Y3 s (r :: l) = Y3 (AJ9 s r) l := rfl;rw [h4, I9, Nat.add_mul, Nat.one_mul];omega
theorem AX9 {r : N9} (h : T2 r = true) : r.size ≤ 400 := by
  have g := goodR h;have h1 : C9 (fun x : Str => x.length) r.Reads ≤ r.Reads.length * 13 := w6 fun x hx => CG6 (g.reads.2 x hx);have h2 : C9 A5.size r.Writes ≤ r.Writes.length * 37 := w6 (f := A5.size) fun x hx => by
    have := g.writes.2 x hx;have k1 := CG6 this.1;have k2 := DI4 this.2.1;show x.Key.length + x.Val.length ≤ 36
    omega
  have h3 : r.size = C9 (fun x : Str => x.length) r.Reads + C9 A5.size r.Writes := rfl;have := g.reads.1;have := g.writes.1;omega
def AW2 (l : List D2) (k : Str) (t : Int) : List Int := (l.filter fun h => AV7 h.Writes k && decide (h.Time ≤ t)).map D2.Txn
def zTold : G7 := ⟨0, false, 0⟩
def zHeld : D2 := ⟨0, 0, 0, [], []⟩
theorem CJ4 {l : List G7} {n : Int} : Ac2 l n = none ↔ AT8 l n = false := by
  unfold Ac2 AT8; rw [List.find?_eq_none, List.any_eq_false]
theorem CJ5 {l : List D2} {i : Nat} {h : D2} {k : Str} {t : Int} (hx : l[i]? = some h) (hc : (AV7 h.Writes k && decide (h.Time ≤ t)) = true) : AW2 (l.take (i + 1)) k t = AW2 (l.take i) k t ++ [h.Txn] := by
  unfold AW2; rw [W1, hx, List.filter_append, X8];show _ ++ List.map _ (List.filter _ [h]) = _
  rw [List.filter_cons_of_pos (p := fun h : D2 => AV7 h.Writes k && decide (h.Time ≤ t)) hc]; rfl
theorem Cb2 {l : List D2} {i : Nat} {h : D2} {k : Str} {t : Int} (hx : l[i]? = some h) (hc : (AV7 h.Writes k && decide (h.Time ≤ t)) = false) : AW2 (l.take (i + 1)) k t = AW2 (l.take i) k t := by
  unfold AW2; rw [W1, hx, List.filter_append, X8];show _ ++ List.map _ (List.filter _ [h]) = _
  rw [List.filter_cons_of_neg (p := fun h : D2 => AV7 h.Writes k && decide (h.Time ≤ t)) (by rw [hc]; decide)]; simp
theorem DM4 (l : List D2) (k : Str) (t : Int) : (AW2 l k t).length ≤ l.length := by unfold AW2; rw [A7]; exact List.length_filter_le _ _
theorem DM5 {s : E9} (g : GS s) {h : D2} (hm : h ∈ s.Held) : 1 ≤ h.Time ∧ h.Time ≤ 100000 ∧ adj T9 h.Writes = true := by
  obtain ⟨g1, g2, g3⟩ := g.good h hm;have h1 := g1;unfold T2 Ab5 at h1;rw [D3 rfl] at h1;unfold BE5 Aa0 within at h1
  simp only [D8, H5] at h1;exact ⟨by omega, by omega, CC6 g1⟩
theorem fullC_at {l : List B6} {k : Str} {c : B6} (hc : ¬ atC l k < 0 → m8 l k = some c) : Ak0 l k = (decide ((0 : Int) ≤ atC l k) && decide ((16 : Int) ≤ (c.Vers.length : Int))) := by
  unfold Ak0;by_cases h : atC l k < 0
  · rw [CR6 h, AP9 qz8]; rfl
  · rw [hc h, q8 qz8, Bool.true_and]
    dsimp only;rw [decide_eq_decide]; omega
theorem at_some (l : List B6) (k : Str) : ∃ c : B6, ¬ atC l k < 0 → (∃ p : Nat, atC l k = (p : Int) ∧ l[p]? = some c) ∧ m8 l k = some c := by
  by_cases h : atC l k < 0
  · exact ⟨⟨[], []⟩, fun k => absurd h k⟩
  · obtain ⟨p, c, h1, h2, h3⟩ := CR7 h
    exact ⟨c, fun _ => ⟨⟨p, h1, h2⟩, h3⟩⟩
theorem BJ6 {s : E9} {i : Nat} {h y : D2} (hx : s.Held[i]? = some h) (hy : s.Held[i - 1]? = some y) : Aq7 s i = (!((!BG4 (Ab5 h) || decide (s.Floor < h.Time)) || (decide ((0 : Int) < (i : Int)) && decide (h.Txn ≤ y.Txn))) && ((s.Held.take i).all (fun g => apart g h.Reads h.Writes) && h.Writes.all fun w => decide (O9 s.Cells w.Key < h.Time))) := by
  rw [DW1 hx hy, Ax0];have h2 : ((s.Held.take i).all fun g => apart g h.Reads h.Writes) = !((s.Held.take i).any fun g => Az4 h g) := by
    rw [List.not_any_eq_all_not]; congr 1; funext g; rw [BV1, Bool.not_not]
  have h3 : (h.Writes.all fun w => decide (O9 s.Cells w.Key < h.Time)) = !(h.Writes.any fun w => decide (h.Time ≤ O9 s.Cells w.Key)) := by
    rw [List.not_any_eq_all_not]; congr 1; funext w; rw [← decide_not, decide_eq_decide]; omega
  rw [h2, h3]
theorem Bf9 {s : E9} {i : Nat} {t y : G7} (hx : s.Told[i]? = some t) (hy : s.Told[i - 1]? = some y) : Az5 s i = (!((((!within t.Txn 1 60 || (decide ((0 : Int) < (i : Int)) && decide (t.Txn ≤ y.Txn))) || (t.Yes && !within t.Time 1 s.Floor)) || (!t.Yes && (t.Time != 0)))) && !AX0 s.Held t.Txn) := by
  rw [DW2 hx hy];congr 2
  show ((!within t.Txn 1 60 || _) || _) = _
  have e : (!((t.Yes && within t.Time 1 s.Floor) || (!t.Yes && (t.Time == 0)))) = ((t.Yes && !within t.Time 1 s.Floor) || (!t.Yes && (t.Time != 0))) := by
    show _ = ((t.Yes && !within t.Time 1 s.Floor) || (!t.Yes && !(t.Time == 0)))
    cases t.Yes <;> simp
  rw [e]
  cases within t.Txn 1 60 <;> cases (decide ((0 : Int) < (i : Int)) && decide (t.Txn ≤ y.Txn)) <;> cases (t.Yes && !within t.Time 1 s.Floor) <;> cases (!t.Yes && (t.Time != 0)) <;> rfl
def AS9 (l : List D2) (n : Int) : D2 × Bool := match AH7 l n with | some h => (h, true) | none => (zHeld, false)
def AG5 (l : List G7) (n : Int) : G7 × Bool := match Ac2 l n with | some h => (h, true) | none => (zTold, false)
theorem Bo9 (l : List D2) (n : Int) : (AS9 l n).2 = AX0 l n := by
  unfold AS9
  cases h : AH7 l n with
  | none => exact (BJ0.1 h).symm
  | some x => obtain ⟨h1, h2⟩ := Ao1 h; exact (hasH_iff.2 ⟨x, h1, h2⟩).symm
theorem DX2 (l : List G7) (n : Int) : (AG5 l n).2 = AT8 l n := by
  unfold AG5
  cases h : Ac2 l n with
  | none => exact (CJ4.1 h).symm
  | some x =>
    unfold Ac2 at h;exact (hasT_iff.2 ⟨x, Ah2 h, by simpa using List.find?_some h⟩).symm
theorem Bg0 {α : Type} {p : α → Bool} : ∀ {l : List α} {i : Nat} {x : α}, l[i]? = some x → p x = true → (∀ j y, j < i → l[j]? = some y → p y = false) → l.find? p = some x
  | [], i, x, h, _, _ => by simp at h
  | y :: l, 0, x, h, hp, _ => by simp at h; subst h; rw [List.find?_cons, hp]
  | y :: l, i + 1, x, h, hp, hn => by
    rw [List.find?_cons, hn 0 y qz8 rfl];exact Bg0 Aj4 hp fun j z hj hz => hn (j + 1) z qz8 (by simpa using hz)
theorem Cr3 {α : Type} {p : α → Bool} {l : List α} (hn : ∀ (j : Nat) (y : α), l[j]? = some y → p y = false) : l.find? p = none := by
  rw [List.find?_eq_none];intro x hx;obtain ⟨j, hj⟩ := i7 hx;rw [hn j x hj]; decide
end Go.M
namespace Go.PQ
open Go.Proofs Go.Proofs.Tryz
open Go Go.AV Go.M
attribute [local irreducible] OpW OpA OpS AWP K6 L8 K8 OpE K7 I7 L1 Le Ev G4 M7 Int.tmod Int.tdiv IntKind.wrap
theorem room_app (s : E9) (e : List (List AV)) (l : List D2) (rs : List Str) (ws : List A5) (he : e = (l ++ [(⟨0, 0, 0, rs, ws⟩ : D2)]).map D2.cs) (hg : AA6 s.Cells = true) (hs : s.size ≤ 1048576) (hh : C9 D2.size (l ++ [(⟨0, 0, 0, rs, ws⟩ : D2)]) ≤ 1048576) : E1 257 [AV.agg s.cs, AV.list 5 e] (AV.bool (decide (l.length < 12) && room s.Cells (hWs l ++ ws))) := by
  have h := DW3 s (l ++ [(⟨0, 0, 0, rs, ws⟩ : D2)]) hg hs hh;have e1 : hWs (l ++ [(⟨0, 0, 0, rs, ws⟩ : D2)]) = hWs l ++ ws := by rw [Be2, BB2]; simp [hWs]
  rw [e1, ← he] at h;have e2 : decide ((l ++ [(⟨0, 0, 0, rs, ws⟩ : D2)]).length ≤ 12) = decide (l.length < 12) := by rw [G3, decide_eq_decide]; simp; omega
  rw [e2] at h;exact h
theorem DX3 (s : E9) (rs : List Str) (ws : List A5) (hg : w7 s = true) (hs : s.size ≤ 500000) (hw : C9 (fun x : Str => x.length) rs + C9 A5.size ws ≤ 500000) (hwa : adj T9 ws = true) : E1 218 [AV.agg s.cs, strs rs, AV.list 3 (ws.map A5.cs)] (AV.bool (fits s rs ws)) := by
 have g := AN6.1 hg;obtain ⟨hs1, hs2, hs3, hs4, hs5⟩ := AG7 hs;have hwl := O2 (f := A5.size) (l := ws);have hl9 : (⟨0, 0, 0, rs, ws⟩ : D2).Writes.length ≤ 4611686018427387903 := by show ws.length ≤ _; omega
 have ha9 : adj T9 (⟨0, 0, 0, rs, ws⟩ : D2).Writes = true := hwa;have hpre : ∀ k ∈ s.Held, adj T9 k.Writes = true ∧ k.Writes.length ≤ 4611686018427387903 := fun k hk => by
  obtain ⟨i, hi⟩ := i7 hk;have := AQ6 hs2 hi;exact ⟨CC6 (g.good k hk).1, by omega⟩
 have hany : (s.Held.any fun k => Az4 ⟨0, 0, 0, rs, ws⟩ k) = !(s.Held.all fun k => apart k rs ws) := by
  rw [List.not_all_eq_any_not]; congr 1; funext k; rw [BV1]
 have hsz : C9 D2.size (s.Held ++ [⟨0, 0, 0, rs, ws⟩]) ≤ 1048576 := by
  rw [Al6, X7];show _ + (1 + (C9 (fun x : Str => x.length) rs + C9 A5.size ws) + 0) ≤ _
  omega
 refine B2 func218 rfl ntmps218 rfl ?_;refine R3 ?_;intro b3;refine R8 ?_;intro b7;refine R4 ?_;refine G6 (show _ = [Own.box b7 256 (D2.cs ⟨0, 0, 0, rs, ws⟩), Own.box b3 60 s.cs] from rfl) ?_;refine R3 ?_;refine A1 rfl (BR2 rfl rfl I4) ?_;refine A1 rfl (m5 rfl call254 rfl (BY4 s.Held (fun g => adj T9 g.Writes = true ∧ g.Writes.length ≤ 4611686018427387903) (fun k => Az4 ⟨0, 0, 0, rs, ws⟩ k) hpre) (U2 _) (O6 (evb zA) (O6 (AY7 (At4 0 zA rfl) (Ak5 call255 (fun g hg => DL9 _ g W5 AK2 hg))) o0))) ?_;refine zC ?_ ?_
 ·intro h14;refine R5 ?_;exact D5 rfl (A8 rfl qz118)
 intro h14;refine R2 ?_;refine O5 _ [(0, false), (1, false), (2, false), (4, false), (5, false), (3, true), (6, true)] E6 E6 rfl Ae8 ?_;refine R5 ?_;refine S8 rfl rfl rfl (P3 [] rfl call258 rfl (CS6 _ W5) (A2 (A0 rfl) B0) rfl) (fun a _ => qz4) ?_;intro x18 ok18;refine S8 rfl rfl rfl (L9 (by' := 72) 2 rfl G9 type256 rfl rfl rfl rfl rfl rfl zA zA rfl qz3) (fun a _ => qz4) ?_;intro v21_1 _;refine R1 ?_;refine A1 rfl (m5 rfl call257 rfl (room_app s _ s.Held rs ws (by rw [X8]; rfl) g.cells qz8 hsz) (U2 _) (O6 (evb (A0 rfl)) (O6 (Au7 2 (A0 rfl) rfl) o0))) ?_;refine R3 ?_;exact D5 rfl (A8 rfl qz118)
theorem Cz3 (s : E9) (r : N9) (hg : w7 s = true) (hr : T2 r = true) (hs : s.size ≤ 400000) : L7 191 [AV.agg s.cs, AV.agg r.cs] [] (fun _ : Value × Value => True) (fun x => E9.ow (AR1 s r).1 x) (fun x => AV.tup [AV.agg (E9.ocs (AR1 s r).1 x), AV.bool (AR1 s r).2]) := by
 have g := AN6.1 hg;have hgc := g.cells;have hsr := g.hsort;have htr := g.tsort;obtain ⟨hs1, hs2, hs3, hs4, hs5⟩ := AG7 hs;have hrs := AX9 hr;have hrs2 : r.size = C9 (fun x : Str => x.length) r.Reads + C9 A5.size r.Writes := rfl;have hple := DG0 s.Held r.Txn;refine C6 func191 rfl ntmps191 rfl ?_;refine R3 ?_;intro b2;refine R1 ?_;intro b3;refine R1 ?_;intro b4;refine zC ?_ ?_
 ·intro h14;have hk : r.Kind = 4 := by simpa using h14
  refine zK ?_ ?_
  ·intro h19 k19;have he : AR1 s r = (U9, false) := by (unfold AR1 W6; rw [D3 hk, C5 AR9])
   rw [he];exact zq29
  intro h19 k19;have he : AR1 s r = (⟨r.Time, s.Cells, s.Held, s.Told⟩, true) := by (unfold AR1 W6; rw [D3 hk, D3 AR9])
  rw [he];refine R4 ?_;refine zI [] rfl call215 (BH2 s qz8) I4 rfl ?_;intro x22 ok22;refine R1 ?_;intro b6;refine R3 ?_;refine G6 Aa7 ?_;refine R7 ?_;refine G6 Aa7 ?_;refine R6 ?_;exact I5 [1, 1] (x22.1, x22.2) (trivial) rfl B8 (j9 rfl D4 (I1 (F5 (ys := _) 3 rfl rfl Q1 M2 rfl) Z9))
 intro h14;have hk4 : r.Kind ≠ 4 := by simpa using h14
 refine R7 ?_;refine zF rfl call56 (Bi9 s r.Txn qz8) F4 ?_;refine zC ?_ ?_
 ·intro h34;have hT : AT8 s.Told r.Txn = true := by (rw [← BZ3 htr]; exact h34)
  have he : AR1 s r = (U9, false) := by (unfold AR1 W6; rw [C5 hk4, D3 hT]; rfl)
  rw [he];exact zq29
 intro h34;have hT : AT8 s.Told r.Txn = false := by (rw [← BZ3 htr]; exact h34)
 refine zC ?_ ?_
 ·intro h38;have hk1 : r.Kind ≠ 1 := by simpa using h38
  rw [appR_dec hk4 hT hk1];refine R4 ?_;refine zI [] rfl call216 (Cz0 s r hgc hsr htr hT qz8) F4 rfl ?_;intro x41 ok41;refine R6 ?_;exact I5 [0, 0] (x41.1, x41.2) (trivial) rfl B8 (j9 rfl D4 (I1 (F5 (ys := _) 2 rfl rfl Q1 M2 rfl) Z9))
 intro h38;have hk1 : r.Kind = 1 := by simpa using h38
 have hwa : adj T9 r.Writes = true := by (rw [← Co2 hr hk1] at hr; exact CC6 hr)
 refine R6 ?_;refine zF rfl call217 (Bi8 s r.Txn qz8) F4 ?_;refine R23 ?_;refine T6 rfl (fun hc => zG rfl call218 (DX3 s r.Reads r.Writes hg qz8 qz8 hwa) zS) ?_;refine zC ?_ ?_
 ·intro h67;have he : AR1 s r = (U9, false) := by (unfold AR1 W6; rw [C5 hk4, C5 (show ¬ AT8 s.Told r.Txn = true by rw [hT]; decide), D3 hk1, C5 (by rw [← BM2 hsr]; intro h; simp only [D8, q7, H5] at h; rw [h.1.1, h.2, AP9 qz8] at h67; simp at h67)])
  rw [he];exact zq29
 intro h67;simp only [AE4, AJ5, AH1] at h67;obtain ⟨⟨q1, q2⟩, q3⟩ := h67;have he : AR1 s r = (⟨r.Time, s.Cells, Ab6 (hOf r) s.Held, s.Told⟩, true) := by (unfold AR1 W6; rw [C5 hk4, C5 (show ¬ AT8 s.Told r.Txn = true by rw [hT]; decide), D3 hk1, D3 (by rw [← BM2 hsr, q1, q3, q8 (show s.Floor < r.Time by omega)]; rfl)])
 have hins : Ab6 (hOf r) s.Held = s.Held.take (Aj3 s.Held r.Txn) ++ hOf r :: s.Held.drop (Aj3 s.Held r.Txn) := insH_pos (h := hOf r) hsr q1;rw [he, hins];refine R4 ?_;refine zI [] rfl call215 (BH2 s qz8) I4 rfl ?_;intro x70 ok70;refine R1 ?_;intro b11;refine R3 ?_;refine G6 Aa7 ?_;refine zL [0, 3] ?_;refine O5 _ [(0, false), (1, false), (2, false), (3, false), (4, false), (5, true), (6, true)] E6 E6 rfl (S1 2) ?_;refine R4 ?_;refine P7 rfl rfl rfl (fun ext => zG rfl call220 (By0 r qz8) I4) ?_;refine S8 rfl rfl rfl (Aw9 rfl G9 N8 zeroValue256 rfl rfl rfl rfl (D7 zA (i3 _) V1) rfl rfl) (fun a _ => qz4) ?_;intro v76 _;refine S8 rfl rfl rfl (P3 [2, 5] rfl call219 rfl (CS8 _ _ s.Held (hOf r) (Aj3 s.Held r.Txn) hple qz8) (A2 (A0 rfl) (A2 (A0 rfl) (A2 (A0 rfl) B0))) rfl) (fun a _ => qz4) ?_;intro x77 ok77;refine R2 ?_;refine O4 5 rfl fun one_x77 => ?_;refine M4 0 rfl rfl rfl zA zA (L2 one_x77) rfl AM3 rfl ?_;refine R2 ?_;refine G6 Aa7 ?_;refine R7 ?_;refine G6 Aa7 ?_;refine R6 ?_;exact I5 [5, 2] (x77, x70.2) (trivial) rfl B8 (j9 rfl D4 (I1 (F5 (ys := _) 3 rfl rfl Q1 M2 rfl) Z9))
theorem Cr4 (s : E9) (r : N9) (hg : w7 s = true) (hr : T2 r = true) (hs : s.size ≤ 400000) : E1 191 [AV.agg s.cs, AV.agg r.cs] (AV.tup [AV.agg (AR1 s r).1.cs, AV.bool (AR1 s r).2]) :=
  N1 (Cz3 s r hg hr hs) fun x _ => AV2 (C1 (AQ5 (E9.lc _ x)) (C1 E4 Y2))
theorem Cz4 (l : List N9) (hg : ∀ r ∈ l, T2 r = true) (hl : l.length ≤ 60) : L7 152 [AV.list 7 (l.map N9.cs)] [] (fun _ : Value => True) (fun x => [.arr x 4 1 ((Ae1 U9 l).map fun b => [AV.bool b])]) (fun x => AV.tup [AV.agg (Y3 U9 l).cs, AV.is x]) := by
 have hgs : ∀ i, GS (Y3 U9 (l.take i)) := fun i => CR8 BY0 fun r hr => hg r (AW6 hr);have hsz : ∀ i, (Y3 U9 (l.take i)).size ≤ 400000 := fun i => by
  have h1 := Cr1 (Y3 U9 (l.take i));have h2 := CC7 (m := 400) (s := U9) (l := l.take i) fun r hr => AX9 (hg r (AW6 hr));have h3 : phi U9 = 0 := rfl;have h4 : (l.take i).length ≤ 60 := by rw [H4]; omega
  omega
 refine C6 func152 rfl ntmps152 rfl ?_;refine R3 ?_;intro b2;refine zq7 ?_;refine R5 ?_;intro b4;refine R3 ?_;refine AWP.le (AG9 0 1 2 rfl rfl N7) ?_;refine AWP.le (AG9 0 2 5 rfl rfl N7) ?_;refine AWP.le (AG9 0 3 3 rfl rfl N7) ?_;refine R1 ?_;refine P4 rfl rfl rfl rfl y6 T7 ?_;intro v11;refine R10 ?_;refine zL [1, 0] ?_;refine V8 [(2, _), (3, _), (4, _), (12, _), (13, _)] _ (fun (i : Nat) (v : Value) (bs : List Bool) => i ≤ l.length ∧ bs = Ae1 U9 (l.take i) ∧ bs.length ≤ i) (fun i v bs => [.box b4 60 (Y3 U9 (l.take i)).cs, .arr v 4 1 (bs.map fun b => [AV.bool b])]) (fun i v bs => [(5, AV.is v), (14, AV.int i)]) (fun i v bs => l.length - i) (0) (v11) ([]) ?_ (K5 B8 A4) ?_
 ·exact ⟨E2 _, rfl, N2 _⟩
 intro i v bs hinv;refine zK ?_ ?_
 ·intro h15 k15;have hlt : i < l.length := by omega
  obtain ⟨r, hx⟩ := B3 hlt;have hgr := hg r (C2 hx);have hgi := AN6.2 (hgs i);have hsi := hsz i;have hst := DX0 (Y3 U9 (l.take i)) r;refine zq0 ?_;intro b7;refine R6 ?_;refine zF rfl call191 (Cr4 (Y3 U9 (l.take i)) r hgi hgr hsi) F4 ?_;refine R4 ?_;intro b8;refine zC ?_ ?_
  ·intro h24;have hstep : (AR1 (Y3 U9 (l.take i)) r).1 = AJ9 (Y3 U9 (l.take i)) r := by (rw [← hst, D3 h24])
   refine R8 ?_;refine zq74 ?_;intro v29_1;refine R6 ?_;refine P6 i v bs (i + 1) (v29_1) (bs ++ [(AR1 (Y3 U9 (l.take i)) r).2]) ?_ ?_ (Le.trans (B4 [0, 0, 0, 0] rfl) (C7 2 Cj3 A4))
   ·exact ⟨by omega, by rw [Ay3 hx, hinv.2.1, (DG2 _ _).1], by rw [G3]; simp; omega⟩
   omega
  intro h24;have hstep : Y3 U9 (l.take i) = AJ9 (Y3 U9 (l.take i)) r := by (conv => rhs; rw [← hst, C5 (by rw [h24]; decide)])
  refine R5 ?_;refine zq74 ?_;intro v29_2;refine R6 ?_;refine P6 i v bs (i + 1) (v29_2) (bs ++ [(AR1 (Y3 U9 (l.take i)) r).2]) ?_ ?_ (Le.trans (B4 [0, 0, 0, 0] rfl) (C7 2 Cj3 A4))
  ·exact ⟨by omega, by rw [Ay3 hx, hinv.2.1, (DG2 _ _).1], by rw [G3]; simp; omega⟩
  omega
 intro h15 k15;have hge : i = l.length := by omega
 have hbs := hinv.2.1;rw [hge, AM2] at hbs;rw [hge, AM2, ← hbs];exact zq181
theorem BJ7 (l : List Str) (hl : l.length ≤ 4194304) : L7 170 [strs l] [] (fun _ : Value => True) (fun v => [.arr v 9 1 (l.map fun s => [AV.str s])]) (fun v => AV.is v) := by
  refine C6 func170 rfl ntmps170 rfl ?_;refine zq104 ?_;refine P4 rfl rfl rfl rfl F0 K1 ?_;intro v3;refine R1 ?_;refine G1 (by' := 16) 0 rfl rfl rfl rfl F0 type9 rfl rfl rfl rfl rfl rfl zA zA rfl Bb4 ?_;intro v5_1;refine R3 ?_;exact I5 [0] v5_1 (trivial) rfl B8 M9
theorem Ag7 (v : Value) (l : List Str) (s : Str) (hs : AV6 l) (hl : l.length ≤ 1000000) : L7 125 [AV.is v, AV.str s] [.arr v 9 1 (l.map fun s => [AV.str s])] (fun _ : Value => True) (fun v' => [.arr v' 9 1 ((AE7 l s).map fun s => [AV.str s])]) (fun v' => AV.is v') := by
 refine C6 func125 rfl ntmps125 rfl ?_;refine zq48 ?_;refine R9 ?_;refine F8 [(0, _), (1, _), (4, _)] _ (fun (k : Nat) => k ≤ l.length ∧ ∀ i y, k ≤ i → l[i]? = some y → Op.bytesLess s y = true) (fun k => []) (fun k => [(5, AV.int k)]) (fun k => k) (l.length) ?_ (H0 ⟨E5 (fun z => some (AV.int z)) (by rw [A7]), rfl, rfl, rfl, trivial⟩) ?_
 ·exact ⟨N2 _, fun i y h1 h2 => by (have := (G2.1 h2).1; omega)⟩
 intro k hinv;obtain ⟨y, hy0⟩ : ∃ y, 0 < k → l[k - 1]? = some y := by (by_cases h9 : 0 < k; (have h8 := hinv.1; exact ⟨_, fun _ => P2 (show k - 1 < l.length by omega)⟩); exact ⟨[], fun h8 => absurd h8 h9⟩)
 refine R9 ?_;refine J6 rfl (fun hc => I3 0 rfl F0 K1 (A9 rfl hc) rfl (A9 rfl hc) Bb1 (by have := AD2 hc; have := hinv.1; simp only [A7]; omega)) ?_;refine J6 rfl (fun hc => AL8 0 rfl (A9 rfl hc) rfl AB8 (BO2 (hy0 Bb1) Bb1)) ?_;refine R1 ?_;refine J6 rfl (fun hc => CF3 rfl (A9 rfl hc) (A9 rfl hc)) ?_;refine zC ?_ ?_
 ·intro h19;have hkt : 0 < k ∧ Op.bytesLess s y = true := by (rw [Bt4] at h19; simpa using h19)
  refine R7 ?_;refine Ap7 ?_;refine G5 k (k - 1) ?_ ?_ (H0 ⟨E5 (fun z => some (AV.int z)) qz8, rfl, rfl, rfl, trivial⟩)
  ·exact zq99
  omega
 intro h19;have hng : 0 < k → Op.bytesLess s y = false := fun h => by (rw [Bt4] at h19; simpa [h] using h19)
 refine R10 ?_;refine J6 rfl (fun hc => I3 0 rfl F0 K1 (A9 rfl hc) rfl (A9 rfl hc) Bb1 (by have := AD2 hc; have := hinv.1; simp only [A7]; omega)) ?_;refine J6 rfl (fun hc => AL8 0 rfl (A9 rfl hc) rfl AB8 (BO2 (hy0 Bb1) Bb1)) ?_;refine zC ?_ ?_
 ·intro h32;have hke : 0 < k ∧ y = s := by simpa using h32
  rw [CG8 hs (by rw [← hke.2]; exact hy0 hke.1)];refine R6 ?_;exact I5 [0] v (trivial) rfl qz110 (N4 rfl (A8 rfl B8))
 intro h32;have hne : 0 < k → y ≠ s := fun h e => by simp [h, e] at h32
 rw [CY8 hs hinv.1 hinv.2 (fun z hz hzz => by rw [hy0 hz] at hzz; injection hzz with hzz; subst hzz; exact ⟨hng hz, hne hz⟩)];refine R5 ?_;refine A1 rfl (CF9 0 rfl F0 K1 zA rfl zA qz8 AF3) ?_;refine Bl2 [] rfl rfl rfl rfl call170 rfl (BJ7 (l.drop k) (by rw [AD4]; omega)) rfl (O6 (Al0 zA (lt_tailm (C2 (i := 0) rfl) qz8 qz8)) o0) qz1 qz1 qz1 ?_;intro x37 ok37;refine R3 ?_;refine AWP.le (AL9 [0] 6 rfl rfl (K3 (C2 (i := 0) rfl) F6) (o6 0 rfl rfl N7)) ?_;refine R3 ?_;refine sq_ahi 0 rfl rfl rfl rfl F0 K1 zA rfl zA qz8 AF3 ?_;intro v40_1;rw [AA4, ← List.map_take];refine Bl2 [] rfl rfl rfl rfl call170 rfl (BJ7 (l.take k) Br9) rfl (O6 (Au7 0 zA rfl) o0) qz1 qz1 qz1 ?_;intro x41 ok41;refine R2 ?_;refine G1 (by' := 16) 0 rfl rfl rfl rfl F0 type9 rfl rfl rfl rfl rfl rfl zA zA rfl Bk2 ?_;intro v44_2;refine R1 ?_;refine G1 (by' := 16) 0 rfl rfl rfl rfl F0 type9 rfl rfl rfl rfl rfl rfl zA zA rfl (by simp only [A7, H4, AD4, G3, W7]; omega) ?_;intro v46_3;refine R3 ?_;exact I5 [0] v46_3 (trivial) rfl qz110 (N4 rfl (A8 rfl B8))
theorem Cr5 (r : List Str) (w : List A5) (hr : r.length ≤ 400000) (hw : w.length ≤ 400000) : L7 127 [strs r, AV.list 3 (w.map A5.cs)] [] (fun _ : Value => True) (fun v => [.arr v 9 1 ((AF0 (r ++ T8 w) []).map fun s => [AV.str s])]) (fun v => AV.is v) := by
 refine C6 func127 rfl ntmps127 rfl ?_;refine zq104 ?_;refine V0 9 1 rfl rfl rfl rfl I2 ?_;intro v5;refine R9 ?_;refine J5 [(1, _), (4, _), (10, _), (11, _)] _ (fun (i : Nat) (v : Value) => i ≤ r.length) (fun i v => [.arr v 9 1 ((AF0 (r.take i) []).map fun s => [AV.str s])]) (fun i v => [(5, AV.is v), (12, AV.int i)]) (fun i v => r.length - i) (0) (v5) ?_ (K5 B8 A4) ?_
 ·exact E2 _
 intro i v hinv;refine zK ?_ ?_
 ·intro h13 k13;have hlt : i < r.length := by omega
  obtain ⟨x, hx⟩ := B3 hlt;have hpl := Aq1 (r.take i) [];rw [H4] at hpl;refine zq83 ?_;refine R6 ?_;refine zI [0] rfl call125 (Ag7 v (AF0 (r.take i) []) x (Ai3 List.Pairwise.nil).1 (by simp only [Q8] at hpl; omega)) F4 rfl ?_;intro x18 ok18;refine R6 ?_;refine G0 i v (i + 1) (x18) ?_ ?_ (K5 (by exact E5 (fun z => [Own.arr _ 9 1 (List.map (fun s => [AV.str s]) z)]) (by rw [W1, hx]; exact (Ax1 _ _ _).symm)) A4)
  ·omega
  omega
 intro h13 k13;have hge : i = r.length := by omega
 rw [hge, AM2];refine R9 ?_;refine J5 [(4, _), (20, _), (21, _)] _ (fun (j : Nat) (u : Value) => j ≤ w.length) (fun j u => [.arr u 9 1 ((AF0 (r ++ T8 (w.take j)) []).map fun s => [AV.str s])]) (fun j u => [(5, AV.is u), (22, AV.int j)]) (fun j u => w.length - j) (0) (v) ?_ (K5 (by (show [_] = [_]; simp [T8])) A4) ?_
 ·exact E2 _
 intro j u hinv;refine zK ?_ ?_
 ·intro h23 k23;have hlt : j < w.length := by omega
  obtain ⟨x, hx⟩ := B3 hlt;have hpl := Aq1 (r ++ T8 (w.take j)) [];simp only [G3, T8, A7, H4, Q8] at hpl;refine zq0 ?_;intro b9;refine R6 ?_;refine zI [1] rfl call125 (Ag7 u (AF0 (r ++ T8 (w.take j)) []) x.Key (Ai3 List.Pairwise.nil).1 (by simp only [T8] at hpl ⊢; omega)) F4 rfl ?_;intro x29 ok29;refine R6 ?_;refine G0 j u (j + 1) (x29) ?_ ?_ (Le.trans (B4 [1, 0] rfl) (C7 1 (by exact E5 (fun z => [Own.arr _ 9 1 (List.map (fun s => [AV.str s]) z)]) (by rw [W1, hx]; simp only [T8, X8, ← m6]; exact (Ax1 _ _ _).symm)) A4))
  ·omega
  omega
 intro h23 k23;have hge : j = w.length := by omega
 rw [hge, AM2];refine R7 ?_;exact I5 [0] u (trivial) rfl B8 M9
theorem Cf2 (h : D2) : E1 378 [AV.agg h.cs] (AV.agg (Ab5 h).cs) := by
  refine B2 func378 rfl ntmps378 rfl ?_;refine R3 ?_;intro b1;refine R1 ?_;intro b2;refine R17 ?_;exact D5 rfl (F5 (ys := _) 0 rfl rfl Ad3 AJ7 rfl)
theorem BJ8 (l : List A5) (k : Str) : E1 323 [AV.list 3 (l.map A5.cs), AV.str k] (AV.bool (AV7 l k)) := by
 refine B2 func323 rfl ntmps323 rfl ?_;refine m2 (t := 0) rfl fun hl => ?_;try simp only [A7] at hl
 refine R12 ?_;refine F8 [(1, _), (7, _), (8, _)] _ (fun (i : Nat) => i ≤ l.length ∧ AV7 l k = (l.drop i).any (fun w => w.Key == k)) (fun i => []) (fun i => [(9, AV.int i)]) (fun i => l.length - i) (0) ?_ (H0 A4) ?_
 ·exact zq8
 intro i hinv;refine zK ?_ ?_
 ·intro h10 k10;have hlt : i < l.length := by omega
  obtain ⟨x, hx⟩ := B3 hlt;refine zq0 ?_;intro b6;refine zC ?_ ?_
  ·intro h16;refine R5 ?_;exact D5 rfl (A8 rfl qz183)
  intro h16;refine R5 ?_;refine G5 i (i + 1) ?_ ?_ (S4 1 A4)
  ·exact ⟨by omega, by rw [hinv.2, J7 hx, Aj8, h16]; rfl⟩
  omega
 intro h10 k10;have hge : l.length ≤ i := by omega
 refine R6 ?_;exact D5 rfl (A8 rfl qz183)
theorem CJ6 (l : List Str) (k : Str) : E1 337 [strs l, AV.str k] (AV.bool (BP5 l k)) := by
 refine B2 func337 rfl ntmps337 rfl ?_;refine m2 (t := 0) rfl fun hl => ?_;try simp only [A7] at hl
 refine R12 ?_;refine F8 [(1, _), (7, _), (8, _)] _ (fun (i : Nat) => i ≤ l.length ∧ BP5 l k = (l.drop i).any (fun x => k == x)) (fun i => []) (fun i => [(9, AV.int i)]) (fun i => l.length - i) (0) ?_ (H0 A4) ?_
 ·exact zq8
 intro i hinv;refine zK ?_ ?_
 ·intro h10 k10;have hlt : i < l.length := by omega
  obtain ⟨x, hx⟩ := B3 hlt;refine zq83 ?_;refine zC ?_ ?_
  ·intro h15;refine R5 ?_;exact D5 rfl (A8 rfl qz157)
  intro h15;refine R5 ?_;refine G5 i (i + 1) ?_ ?_ (H0 A4)
  ·exact ⟨by omega, by rw [hinv.2, J7 hx, Aj8, show (k == x) = false from by have h9 := h15; simp at h9 ⊢; exact fun e => h9 e.symm]; rfl⟩
  omega
 intro h10 k10;have hge : l.length ≤ i := by omega
 refine R6 ?_;exact D5 rfl (A8 rfl qz157)
theorem apart_spec (h : D2) (rs : List Str) (ws : List A5) : E1 310 [AV.agg h.cs, strs rs, AV.list 3 (ws.map A5.cs)] (AV.bool (apart h rs ws)) := by
 refine B2 func310 rfl ntmps310 rfl ?_;refine m2 (t := 1) rfl fun hl1 => ?_;try simp only [A7] at hl1
 refine m2 (t := 2) rfl fun hl2 => ?_;try simp only [A7] at hl2
 refine R3 ?_;intro b3;refine R10 ?_;refine F8 [(2, _), (3, _), (11, _), (12, _)] _ (fun (i : Nat) => i ≤ rs.length ∧ (rs.all fun k => !AV7 h.Writes k) = ((rs.drop i).all fun k => !AV7 h.Writes k)) (fun i => []) (fun i => [(13, AV.int i)]) (fun i => rs.length - i) (0) ?_ (H0 A4) ?_
 ·exact zq8
 intro i hinv;refine zK ?_ ?_
 ·intro h14 k14;have hlt : i < rs.length := by omega
  obtain ⟨x, hx⟩ := B3 hlt;refine zq83 ?_;refine R8 ?_;refine zF rfl call323 (BJ8 _ _) F4 ?_;refine zC ?_ ?_
  ·intro h20;have hfin : apart h rs ws = false := by (unfold apart; rw [hinv.2, J7 hx, AC0, h20]; rfl)
   exact zq105
  intro h20;refine R5 ?_;refine G5 i (i + 1) ?_ ?_ (H0 A4)
  ·exact ⟨by omega, by rw [hinv.2, J7 hx, AC0, h20]; rfl⟩
  omega
 intro h14 k14;have hge : rs.length ≤ i := by omega
 have hr : (rs.all fun k => !AV7 h.Writes k) = true := by (rw [hinv.2, n5 hge]; rfl)
 refine R9 ?_;refine F8 [(3, _), (22, _), (23, _)] _ (fun (q : Nat) => q ≤ ws.length ∧ (ws.all fun w => !(AV7 h.Writes w.Key || BP5 h.Reads w.Key)) = ((ws.drop q).all fun w => !(AV7 h.Writes w.Key || BP5 h.Reads w.Key))) (fun q => []) (fun q => [(24, AV.int q)]) (fun q => ws.length - q) (0) ?_ (H0 A4) ?_
 ·exact zq8
 intro q hinv;refine zK ?_ ?_
 ·intro h25 k25;have hlt : q < ws.length := by omega
  obtain ⟨x, hx⟩ := B3 hlt;refine zq0 ?_;intro b10;refine R8 ?_;refine zF rfl call323 (BJ8 _ _) F4 ?_;refine R5 ?_;refine T6 rfl (fun hc => zG rfl call337 (CJ6 _ _) zS) ?_;refine zC ?_ ?_
  ·intro h39;have hfin : apart h rs ws = false := by (unfold apart; rw [hinv.2, J7 hx, AC0, h39]; simp)
   exact zq105
  intro h39;refine R5 ?_;refine G5 q (q + 1) ?_ ?_ (S4 1 A4)
  ·exact ⟨by omega, by rw [hinv.2, J7 hx, AC0, h39]; rfl⟩
  omega
 intro h25 k25;have hge : ws.length ≤ q := by omega
 have hfin : apart h rs ws = true := by (unfold apart; rw [hr, hinv.2, n5 hge]; rfl)
 refine R6 ?_;exact D5 rfl (A8 rfl BQ5)
theorem Cz5 (l : List D2) (q : Nat) : (hWs (l.take q)).length ≤ (hWs l).length := by
  have h := Be2 (l.take q) (l.drop q);rw [Ao8] at h;rw [h, G3]; omega
theorem CJ7 (s : E9) (ws : List A5) (hs : s.size ≤ 1048576) (hb : s.Cells.length + ws.length + (hWs s.Held).length ≤ 800000) : E1 311 [AV.agg s.cs, AV.list 3 (ws.map A5.cs)] (AV.bool (room s.Cells (ws ++ hWs s.Held))) := by
 obtain ⟨hs1, hs2, hs3, hs4, hs5⟩ := AG7 hs;obtain ⟨p, hp⟩ : ∃ p : A5 → Bool, p = fun w => !Ak0 s.Cells w.Key := ⟨_, rfl⟩;obtain ⟨al, hal⟩ : ∃ al, ws ++ hWs s.Held = al := ⟨_, rfl⟩;have hall : al.length ≤ 800000 - s.Cells.length := by rw [← hal, G3]; omega
 rw [hal];refine B2 func311 rfl ntmps311 rfl ?_;refine R3 ?_;intro b2;refine R4 ?_;refine V0 9 1 rfl rfl rfl rfl I2 ?_;intro v5;refine R10 ?_;refine J5 [(1, _), (2, _), (4, _), (15, _), (16, _)] _ (fun (i : Nat) (v : Value) => i ≤ s.Cells.length) (fun i v => [.arr v 9 1 ((AF0 (AB2 (s.Cells.take i)) []).map fun s => [AV.str s])]) (fun i v => [(5, AV.is v), (17, AV.int i)]) (fun i v => s.Cells.length - i) (0) (v5) ?_ (K5 B8 A4) ?_
 ·exact E2 _
 intro i v hinv;refine zK ?_ ?_
 ·intro h18 k18;have hlt : i < s.Cells.length := by omega
  obtain ⟨c, hx⟩ := B3 hlt;have hpl := Aq1 (AB2 (s.Cells.take i)) [];unfold AB2 at hpl;simp only [A7, H4, Q8] at hpl;refine zq0 ?_;intro b7;refine R6 ?_;refine zI [1] rfl call125 (Ag7 v (AF0 (AB2 (s.Cells.take i)) []) c.Key (Ai3 List.Pairwise.nil).1 (by unfold AB2; omega)) F4 rfl ?_;intro x24 ok24;refine R6 ?_;refine G0 i v (i + 1) (x24) ?_ ?_ (Le.trans (B4 [1, 0] rfl) (C7 1 (by exact E5 (fun z => Own.arr _ 9 1 (List.map (fun s => [AV.str s]) z) :: _) (by unfold AB2; rw [W1, hx, X8]; exact (Ax1 _ _ _).symm)) A4))
  ·omega
  omega
 intro h18 k18;have hge : s.Cells.length ≤ i := by omega
 rw [T4 hge];refine R3 ?_;refine zq171 ?_;intro v26;refine R1 ?_;refine G1 (by' := 40) 0 rfl rfl rfl rfl F3 type82 rfl rfl rfl rfl rfl rfl zA zA rfl Bb4 ?_;intro v28_1;refine R11 ?_;refine V8 [(2, _), (4, _), (5, _), (30, _), (31, _)] _ (fun (q : Nat) (u : Value) (a : List A5) => q ≤ s.Held.length ∧ a = ws ++ hWs (s.Held.take q)) (fun q u a => [.arr u 82 3 (a.map A5.cs)]) (fun q u a => [(8, AV.is u), (32, AV.int q)]) (fun q u a => s.Held.length - q) (0) (v28_1) (ws) ?_ (K5 B8 A4) ?_
 ·exact ⟨E2 _, by rw [List.take_zero]; exact (S0 _).symm⟩
 intro q u a hinv;refine zK ?_ ?_
 ·intro h33 k33;have hlt : q < s.Held.length := by omega
  obtain ⟨h, hx⟩ := B3 hlt;obtain ⟨g1, g2, g3, g4, g5⟩ := AQ6 hs2 hx;have hwt := Cz5 s.Held q;have hal9 : a.length ≤ 800000 := by (rw [hinv.2, G3]; omega)
  refine zq0 ?_;intro b10;refine R6 ?_;refine G1 (by' := 40) 1 rfl rfl rfl rfl F3 type82 rfl rfl rfl rfl rfl rfl zA zA rfl (by simp only [G3, A7]; omega) ?_;intro v39_2;refine R6 ?_;refine P6 q u a (q + 1) (v39_2) (a ++ h.Writes) ?_ ?_ (Le.trans (B4 [0, 0] rfl) (C7 1 Ar4 A4))
  ·exact ⟨by omega, by rw [hinv.2, Cq3 hx, m6]⟩
  omega
 intro h33 k33;have hge : s.Held.length ≤ q := by omega
 have ha9 : a = al := by (rw [hinv.2, T4 hge, hal])
 subst ha9;refine R9 ?_;refine zL [1] ?_;refine V8 [(2, _), (41, _), (42, _)] _ (fun (r : Nat) (v2 : Value) (ks : List Str) => r ≤ a.length ∧ a.all p = (a.drop r).all p ∧ ks = AF0 (AB2 s.Cells ++ T8 (a.take r)) []) (fun r v2 ks => [.arr v2 9 1 (ks.map fun s => [AV.str s])]) (fun r v2 ks => [(5, AV.is v2), (43, AV.int r)]) (fun r v2 ks => a.length - r) (0) (v) (AF0 (AB2 s.Cells) []) ?_ (K5 B8 A4) ?_
 ·exact ⟨E2 _, rfl, by rw [List.take_zero]; exact E5 (fun z => AF0 z []) (S0 _).symm⟩
 intro r v2 ks hinv;refine zK ?_ ?_
 ·intro h44 k44;have hlt : r < a.length := by omega
  obtain ⟨w, hx⟩ := B3 hlt;obtain ⟨c, hc0⟩ := at_some s.Cells w.Key;have hfu := fullC_at (l := s.Cells) (k := w.Key) (c := c) (fun h9 => (hc0 h9).2);have hpl := Aq1 (AB2 s.Cells ++ T8 (a.take r)) [];unfold AB2 T8 at hpl;simp only [G3, A7, H4, Q8] at hpl;refine R5 ?_;refine A1 rfl (I3 1 rfl F3 K9 zA rfl zA qz8 (by try simp only [A7]; omega)) ?_;refine A1 rfl (w5 1 rfl zA rfl isAgg82 K9 (by rw [AA4, Z5, hx]; rfl) D4) ?_;refine R1 ?_;intro b12;refine R7 ?_;refine zI [1] rfl call125 (Ag7 v2 ks w.Key (by rw [hinv.2.2]; exact (Ai3 List.Pairwise.nil).1) (by rw [hinv.2.2]; unfold AB2 T8; omega)) F4 rfl ?_;intro x50 ok50;refine R8 ?_;refine zF rfl call324 (Bo4 _ _) F4 ?_;refine R10 ?_;refine J6 rfl (fun hc => Ac0 rfl D6 K0 (A9 rfl hc) (A9 rfl hc) (by have h9 := AD2 hc; obtain ⟨⟨p9, e1, e2⟩, _⟩ := hc0 qz8; have := (G2.1 e2).1; omega) (by have h9 := AD2 hc; obtain ⟨⟨p9, e1, e2⟩, _⟩ := hc0 qz8; rw [e1, AA4, Z5, e2]; rfl)) ?_;refine zC ?_ ?_
  ·intro h67;have hpw : p w = false := by (rw [hp]; simp only [AJ5]; rw [hfu]; rw [A7] at h67; exact h67)
   have hro : room s.Cells a = false := by (unfold room; rw [show (a.all fun w => !Ak0 s.Cells w.Key) = false from by rw [← hp, hinv.2.1, J7 hx, AC0, hpw]; rfl]; rfl)
   refine R5 ?_;exact D5 rfl (A8 rfl qz169)
  intro h67;have hpw : p w = true := by (rw [hp]; simp only [q7]; rw [hfu]; rw [A7] at h67; exact h67)
  refine R5 ?_;refine P6 r v2 ks (r + 1) (x50) (AE7 ks w.Key) ?_ ?_ (Le.trans (B4 [1, 0] rfl) (C7 1 B8 A4))
  ·exact ⟨by omega, by rw [hinv.2.1, J7 hx, AC0, hpw]; rfl, by rw [hinv.2.2]; unfold T8; rw [W1, hx, X8, ← m6]; exact (Ax1 _ _ _).symm⟩
  omega
 intro h44 k44;have hge : a.length ≤ r := by omega
 have hks := hinv.2.2;rw [T4 hge] at hks;have hro : room s.Cells a = decide (ks.length ≤ 24) := by (unfold room Aq6; rw [← hp, hinv.2.1, n5 hge, CY7, ← hks]; rfl)
 refine R9 ?_;exact D5 rfl (A8 rfl qz169)
theorem DM6 (s : E9) (ws : List A5) (hs : s.size ≤ 400000) (hw : C9 A5.size ws ≤ 400000) : E1 311 [AV.agg s.cs, AV.list 3 (ws.map A5.cs)] (AV.bool (room s.Cells (ws ++ hWs s.Held))) := by
  have hsum : C9 B6.size s.Cells + C9 D2.size s.Held ≤ 400000 := by have h9 : s.size = C9 B6.size s.Cells + C9 D2.size s.Held + s.Told.length := rfl; omega
  have hcl := O2 (f := B6.size) (l := s.Cells);have hwl := O2 (f := A5.size) (l := ws);have hhl := CT4 (l := s.Held);exact CJ7 s ws qz8 qz8
theorem Cb3 : ∀ {l : List D2}, (∀ h ∈ l, T2 (Ab5 h) = true) → (hWs l).length ≤ 400 * l.length
  | [], _ => N2 _
  | h :: l, hg => by
    have ih := Cb3 fun k hk => hg k (S7 h hk);have h1 := AX9 (hg h a8);have h4 := O2 (f := A5.size) (l := h.Writes);have h2 : (Ab5 h).size = C9 (fun x => x.length) h.Reads + C9 A5.size h.Writes := rfl;rw [BB2, G3, I9]; omega
theorem DM7 {s : E9} (h : BX0 s.Held.length (Aq7 s) = true) : ∀ k ∈ s.Held, T2 (Ab5 k) = true := fun k hk => by
  obtain ⟨i, hi⟩ := i7 hk;have h9 := BN5.1 h i (G2.1 hi).1;unfold Aq7 at h9;rw [hi] at h9;simp only [D8] at h9;exact h9.1.1.1.1
theorem Am3 (s : E9) (n : Int) (hlen : s.Held.length ≤ 1048576) : E1 269 [AV.agg s.cs, AV.int n] (AV.tup [AV.agg (AS9 s.Held n).1.cs, AV.bool (AS9 s.Held n).2]) := by
 obtain ⟨l, hl⟩ : ∃ l, s.Held = l := ⟨_, rfl⟩;have hcs : s.cs = [AV.int s.Floor, AV.list 2 (s.Cells.map B6.cs), AV.list 5 (l.map D2.cs), AV.list 3 (s.Told.map G7.cs)] := by rw [← hl]; rfl
 rw [hl] at hlen;rw [hl, hcs];refine B2 func269 rfl ntmps269 rfl ?_;refine R3 ?_;intro b2;refine R1 ?_;intro b4;refine R11 ?_;refine F8 [(1, _), (4, _), (9, _), (10, _)] _ (fun (i : Nat) => i ≤ l.length ∧ ∀ j y, j < i → l[j]? = some y → (y.Txn == n) = false) (fun i => []) (fun i => [(11, AV.int i)]) (fun i => l.length - i) (0) ?_ (H0 A4) ?_
 ·exact ⟨E2 _, fun j y hj => by omega⟩
 intro i hinv;refine zK ?_ ?_
 ·intro h12 k12;have hlt : i < l.length := by omega
  obtain ⟨x, hx⟩ := B3 hlt;refine zq0 ?_;intro b7;refine zC ?_ ?_
  ·intro h18;have he : AS9 l n = (x, true) := by (unfold AS9 AH7; rw [Bg0 hx h18 hinv.2])
   rw [he];refine R7 ?_;exact Y9 rfl D4 (I1 (F5 (ys := _) 1 rfl rfl Ad4 N8 rfl) Z9)
  intro h18;refine R5 ?_;refine G5 i (i + 1) ?_ ?_ (S4 1 A4)
  ·exact ⟨by omega, fun j y hj hy => if hji : j < i then hinv.2 j y hji hy else qz200⟩
  omega
 intro h12 k12;have hge : l.length ≤ i := by omega
 have he : AS9 l n = (zHeld, false) := by (unfold AS9 AH7; rw [Cr3 fun j y hy => hinv.2 j y (Nat.lt_of_lt_of_le (G2.1 hy).1 hge) hy])
 rw [he];refine R8 ?_;refine BU8 0 3 1 rfl rfl ?_;refine BU8 0 4 3 rfl rfl ?_;exact Y9 rfl D4 (I1 (F5 (ys := _) 0 rfl rfl Ad4 N8 rfl) Z9)
theorem AM1 (s : E9) (n : Int) (hlen : s.Told.length ≤ 1048576) : E1 123 [AV.agg s.cs, AV.int n] (AV.tup [AV.agg (AG5 s.Told n).1.cs, AV.bool (AG5 s.Told n).2]) := by
 obtain ⟨l, hl⟩ : ∃ l, s.Told = l := ⟨_, rfl⟩;have hcs : s.cs = [AV.int s.Floor, AV.list 2 (s.Cells.map B6.cs), AV.list 5 (s.Held.map D2.cs), AV.list 3 (l.map G7.cs)] := by rw [← hl]; rfl
 rw [hl] at hlen;rw [hl, hcs];refine B2 func123 rfl ntmps123 rfl ?_;refine R3 ?_;intro b2;refine R1 ?_;intro b4;refine R11 ?_;refine F8 [(1, _), (4, _), (9, _), (10, _)] _ (fun (i : Nat) => i ≤ l.length ∧ ∀ j y, j < i → l[j]? = some y → (y.Txn == n) = false) (fun i => []) (fun i => [(11, AV.int i)]) (fun i => l.length - i) (0) ?_ (H0 A4) ?_
 ·exact ⟨E2 _, fun j y hj => by omega⟩
 intro i hinv;refine zK ?_ ?_
 ·intro h12 k12;have hlt : i < l.length := by omega
  obtain ⟨x, hx⟩ := B3 hlt;refine zq0 ?_;intro b7;refine zC ?_ ?_
  ·intro h18;have he : AG5 l n = (x, true) := by (unfold AG5 Ac2; rw [Bg0 hx h18 hinv.2])
   rw [he];refine R7 ?_;exact Y9 rfl D4 (I1 (F5 (ys := _) 1 rfl rfl AQ0 O0 rfl) Z9)
  intro h18;refine R5 ?_;refine G5 i (i + 1) ?_ ?_ (S4 1 A4)
  ·exact ⟨by omega, fun j y hj hy => if hji : j < i then hinv.2 j y hji hy else qz200⟩
  omega
 intro h12 k12;have hge : l.length ≤ i := by omega
 have he : AG5 l n = (zTold, false) := by (unfold AG5 Ac2; rw [Cr3 fun j y hy => hinv.2 j y (Nat.lt_of_lt_of_le (G2.1 hy).1 hge) hy])
 rw [he];refine R8 ?_;exact zq160
theorem Cf3 (s : E9) (ho : AP2 s.Cells) (hcl : s.Cells.length ≤ 400000) (hs : s.size ≤ 1048576) : E1 377 [AV.agg s.cs] (AV.bool (Ai7 s)) := by
 obtain ⟨hs1, hs2, hs3, hs4, hs5⟩ := AG7 hs;refine B2 func377 rfl ntmps377 rfl ?_;refine R3 ?_;intro b1;refine R11 ?_;refine F8 [(1, _), (10, _), (11, _)] _ (fun (i : Nat) => i ≤ s.Held.length ∧ ∀ j, j < i → Aq7 s j = true) (fun i => []) (fun i => [(12, AV.int i)]) (fun i => s.Held.length - i) (0) ?_ (H0 A4) ?_
 ·exact ⟨E2 _, fun j hj => by omega⟩
 intro i hinv;refine zK ?_ ?_
 ·intro h13 k13;have hlt : i < s.Held.length := by omega
  obtain ⟨h, hx⟩ := B3 hlt;obtain ⟨y, hy⟩ := B3 (show i - 1 < s.Held.length by omega);obtain ⟨g1, g2, g3, g4, g5⟩ := AQ6 hs2 hx;have hinv0 := hinv;refine zq23 ?_;intro b4;refine R7 ?_;refine B7 rfl rfl (zG rfl call378 (Cf2 _) I4) ?_;refine B7 rfl rfl (zG rfl call200 (Bx8 _ W5) (A2 (A0 rfl) B0)) ?_;refine R16 ?_;refine S5 rfl (Z4 rfl rfl rfl) (fun hc => C8 rfl G9 N8 (A9 rfl hc) (A9 rfl hc) hy qz6) ?_;refine zC ?_ ?_
  ·intro h43;have hfin : Ai7 s = false := by (unfold Ai7; rw [Ax3 hlt (by rw [BJ6 hx hy, h43]; rfl)]; rfl)
   refine R5 ?_;exact D5 rfl (A8 rfl qz65)
  intro h43;refine R7 ?_;refine A1 rfl (AN5 rfl G9 N8 zA zA qz3 qz3) ?_;refine R4 ?_;refine F8 [(1, _), (3, _), (4, _), (10, _), (11, _), (12, _), (13, _), (14, _), (15, _), (16, _), (17, _), (18, _), (19, _), (20, _), (21, _), (27, _), (28, _), (43, _), (44, _), (45, _), (46, _), (47, _), (48, _)] _ (fun (q : Nat) => q ≤ (s.Held.take i).length ∧ ((s.Held.take i).all fun g => apart g h.Reads h.Writes) = (((s.Held.take i).drop q).all fun g => apart g h.Reads h.Writes)) (fun q => []) (fun q => [(49, AV.int q)]) (fun q => (s.Held.take i).length - q) (0) ?_ (H0 A4) ?_
  ·exact zq8
  intro q hinv;refine zK ?_ ?_
  ·intro h50 k50;have hlt2 : q < (s.Held.take i).length := by (simp only [H4, A7, AA4] at k50 ⊢; omega)
   obtain ⟨k, hx2⟩ := B3 hlt2;refine R5 ?_;refine A1 rfl (zX hx2) ?_;refine R2 ?_;intro b6;refine R9 ?_;refine zF rfl call310 (apart_spec _ _ _) AJ2 ?_;refine zC ?_ ?_
   ·intro h59;have hfin : Ai7 s = false := by (unfold Ai7; rw [Ax3 hlt (by rw [BJ6 hx hy, hinv.2, J7 hx2, AC0, show apart k h.Reads h.Writes = false by simpa using h59]; simp)]; rfl)
    refine R5 ?_;exact D5 rfl (A8 rfl qz65)
   intro h59;refine R5 ?_;refine G5 q (q + 1) ?_ ?_ (S4 1 A4)
   ·exact ⟨by omega, by rw [hinv.2, J7 hx2, AC0, show apart k h.Reads h.Writes = true by simpa using h59]; rfl⟩
   omega
  intro h50 k50;have hge2 : (s.Held.take i).length ≤ q := by (simp only [H4, A7, AA4] at k50 ⊢; omega)
  have hap : ((s.Held.take i).all fun g => apart g h.Reads h.Writes) = true := by (rw [hinv.2, n5 hge2]; rfl)
  refine R9 ?_;refine F8 [(1, _), (3, _), (4, _), (10, _), (11, _), (12, _), (13, _), (14, _), (15, _), (16, _), (17, _), (18, _), (19, _), (20, _), (21, _), (27, _), (28, _), (43, _), (44, _), (45, _), (46, _), (47, _), (48, _), (49, _), (50, _), (61, _), (62, _), (63, _)] _ (fun (r : Nat) => r ≤ h.Writes.length ∧ (h.Writes.all fun w => decide (O9 s.Cells w.Key < h.Time)) = ((h.Writes.drop r).all fun w => decide (O9 s.Cells w.Key < h.Time))) (fun r => []) (fun r => [(64, AV.int r)]) (fun r => h.Writes.length - r) (0) ?_ (H0 A4) ?_
  ·exact zq8
  intro r hinv;refine zK ?_ ?_
  ·intro h65 k65;have hlt3 : r < h.Writes.length := by omega
   obtain ⟨w, hw⟩ := B3 hlt3;refine R5 ?_;refine A1 rfl (zX hw) ?_;refine R2 ?_;intro b8;refine R8 ?_;refine B7 rfl rfl (zG rfl call312 (BV9 _ _ (by first | assumption | exact Ac9 (by rw [AI7]; assumption)) W5) (A2 (A0 rfl) (A2 (A0 rfl) B0))) ?_;refine zK ?_ ?_
   ·intro h75 k75;have hfin : Ai7 s = false := by (unfold Ai7; rw [Ax3 hlt (by rw [BJ6 hx hy, hinv.2, J7 hw, AC0, AP9 (show ¬ O9 s.Cells w.Key < h.Time by omega)]; simp)]; rfl)
    refine R5 ?_;exact D5 rfl (A8 rfl qz65)
   intro h75 k75;refine R5 ?_;refine G5 r (r + 1) ?_ ?_ (S4 1 A4)
   ·exact ⟨by omega, by rw [hinv.2, J7 hw, AC0, q8 (show O9 s.Cells w.Key < h.Time by omega)]; rfl⟩
   omega
  intro h65 k65;have hge3 : h.Writes.length ≤ r := by omega
  have hlw : (h.Writes.all fun w => decide (O9 s.Cells w.Key < h.Time)) = true := by (rw [hinv.2, n5 hge3]; rfl)
  refine R5 ?_;refine G5 i (i + 1) ?_ ?_ (S4 1 A4)
  ·exact ⟨by omega, fun j hj => if hji : j < i then hinv0.2 j hji else (by have e : j = i := qz8; subst e; rw [BJ6 hx hy, h43, hap, hlw]; rfl)⟩
  omega
 intro h13 k13;have hall : BX0 s.Held.length (Aq7 s) = true := BN5.2 fun j hj => hinv.2 j qz8;refine R9 ?_;refine J6 rfl (fun hc => zG rfl call311 (CJ7 s [] hs (by (have h9 := Cb3 (DM7 hall); have h8 := AD2 hc; simp only [A7] at h8; simp only [Q8]; omega))) (A2 (A9 rfl hc) (A2 X1 B0))) ?_;refine R4 ?_;exact D5 rfl (A8 rfl qz65)
theorem CJ8 (s : E9) (hs : s.size ≤ 1048576) : E1 375 [AV.agg s.cs] (AV.bool (w7 s)) := by
 obtain ⟨hs1, hs2, hs3, hs4, hs5⟩ := AG7 hs;refine B2 func375 rfl ntmps375 rfl ?_;refine R3 ?_;intro b1;refine R7 ?_;refine zF rfl call70 (Ai5 _) I4 ?_;refine R4 ?_;refine T6 rfl (fun hc => zG rfl call313 (Bx6 _ W5) (A2 (A9 rfl hc) B0)) ?_;refine R4 ?_;refine T6 rfl (fun hc => zG rfl call377 (Cf3 s (Ac9 (by have h9 := hc; simp at h9; rw [AI7]; exact h9.2)) (by have h9 := hc; simp at h9; have h8 := (AI3 (by rw [AI7]; exact h9.2)).1; omega) hs) zS) ?_;refine zC ?_ ?_
 ·intro h29;have hfin : w7 s = false := by (unfold w7; simp only [AB1, q7, H5, A7] at h29; rcases h29 with ((h | h) | h) | h; (rw [h]; rfl); (rw [AI7, h]; simp); (rw [h]; simp); (rw [AP9 (show ¬ s.Told.length ≤ 60 by omega)]; simp))
  exact zq105
 intro h29;simp only [AE4, AJ5, AH1, A7] at h29;obtain ⟨⟨⟨q1, q2⟩, q3⟩, q4⟩ := h29;have hco := Ac9 (by rw [AI7]; exact q2);have hgs : w7 s = ((s.Cells.all fun c => decide (O9 s.Cells c.Key ≤ s.Floor)) && BX0 s.Told.length (Az5 s)) := by (unfold w7; rw [q1, AI7, q2, q3, q8 (show s.Told.length ≤ 60 by omega)]; simp)
 refine R10 ?_;refine F8 [(1, _), (31, _), (32, _)] _ (fun (i : Nat) => i ≤ s.Cells.length ∧ (s.Cells.all fun c => decide (O9 s.Cells c.Key ≤ s.Floor)) = ((s.Cells.drop i).all fun c => decide (O9 s.Cells c.Key ≤ s.Floor))) (fun i => []) (fun i => [(33, AV.int i)]) (fun i => s.Cells.length - i) (0) ?_ (H0 A4) ?_
 ·exact zq8
 intro i hinv;refine zK ?_ ?_
 ·intro h34 k34;have hlt : i < s.Cells.length := by omega
  obtain ⟨c, hx⟩ := B3 hlt;refine zq0 ?_;intro b4;refine R8 ?_;refine B7 rfl rfl (zG rfl call312 (BV9 _ _ (by first | assumption | exact Ac9 (by rw [AI7]; assumption)) W5) (A2 (A0 rfl) (A2 (A0 rfl) B0))) ?_;refine zK ?_ ?_
  ·intro h44 k44;have hfin : w7 s = false := by (rw [hgs, hinv.2, J7 hx, AC0, AP9 (show ¬ O9 s.Cells c.Key ≤ s.Floor by omega)]; rfl)
   exact zq105
  intro h44 k44;refine R5 ?_;refine G5 i (i + 1) ?_ ?_ (S4 1 A4)
  ·exact ⟨by omega, by rw [hinv.2, J7 hx, AC0, q8 (show O9 s.Cells c.Key ≤ s.Floor by omega)]; rfl⟩
  omega
 intro h34 k34;have hge : s.Cells.length ≤ i := by omega
 have hgs2 : w7 s = BX0 s.Told.length (Az5 s) := by (rw [hgs, hinv.2, n5 hge]; rfl)
 refine R10 ?_;refine F8 [(1, _), (47, _), (48, _)] _ (fun (q : Nat) => q ≤ s.Told.length ∧ ∀ j, j < q → Az5 s j = true) (fun q => []) (fun q => [(49, AV.int q)]) (fun q => s.Told.length - q) (0) ?_ (H0 A4) ?_
 ·exact ⟨E2 _, fun j hj => by omega⟩
 intro q hinv;refine zK ?_ ?_
 ·intro h50 k50;have hlt : q < s.Told.length := by omega
  obtain ⟨t, hx⟩ := B3 hlt;obtain ⟨y, hy⟩ := B3 (show q - 1 < s.Told.length by omega);refine zq23 ?_;intro b6;refine R8 ?_;refine B7 rfl rfl (zG rfl call71 (Q0 _ _ _) AR2) ?_;refine R9 ?_;refine S5 rfl (Z4 rfl rfl rfl) (fun hc => C8 rfl J2 O0 (A9 rfl hc) (A9 rfl hc) hy qz6) ?_;refine R15 ?_;refine S5 rfl (Z4 rfl rfl rfl) (fun hc => zG rfl call71 (Q0 _ _ _) zS) ?_;refine zC ?_ ?_
  ·intro h95;have hfin : w7 s = false := by (rw [hgs2]; exact Ax3 hlt (by rw [Bf9 hx hy, h95]; rfl))
   exact zq105
  intro h95;refine R6 ?_;refine zF rfl call269 (Am3 _ _ W5) (A2 (A0 rfl) (A2 (A0 rfl) B0)) ?_;refine R4 ?_;intro b7;refine zC ?_ ?_
  ·intro h103;have hfin : w7 s = false := by (rw [hgs2]; exact Ax3 hlt (by rw [Bf9 hx hy, ← Bo9, h103]; simp))
   exact zq105
  intro h103;refine R5 ?_;refine G5 q (q + 1) ?_ ?_ (S4 2 A4)
  ·exact ⟨by omega, fun j hj => if hji : j < q then hinv.2 j hji else (by have e : j = q := qz8; subst e; rw [Bf9 hx hy, h95, ← Bo9, h103]; rfl)⟩
  omega
 intro h50 k50;have hge : s.Told.length ≤ q := by omega
 have hfin : w7 s = true := by (rw [hgs2]; exact BN5.2 fun j hj => hinv.2 j qz8)
 refine R6 ?_;exact D5 rfl (A8 rfl BQ5)
end Go.PQ
namespace Go.PQ
open Go.Proofs Go.Proofs.Tryz
open Go Go.AV Go.M
attribute [local irreducible] OpW OpA OpS AWP K6 L8 K8 OpE K7 I7 L1 Le Ev G4 M7
theorem CJ9 (l : List Int) (a b : Int) : E1 64 [ints l, AV.int a, AV.int b] (AV.bool (l.all fun g => within g a b)) := by
 refine B2 func64 rfl ntmps64 rfl ?_;refine m2 (t := 0) rfl fun hl => ?_;try simp only [A7] at hl
 refine R12 ?_;refine F8 [(1, _), (2, _), (9, _), (10, _)] _ (fun (i : Nat) => i ≤ l.length ∧ (l.all fun g => within g a b) = ((l.drop i).all fun g => within g a b)) (fun i => []) (fun i => [(11, AV.int i)]) (fun i => l.length - i) (0) ?_ (H0 A4) ?_
 ·exact zq8
 intro i hinv;refine zK ?_ ?_
 ·intro h12 k12;have hlt : i < l.length := by omega
  obtain ⟨x, hx⟩ := B3 hlt;refine zq83 ?_;refine R8 ?_;refine zF rfl call71 (Q0 _ _ _) AJ2 ?_;refine zC ?_ ?_
  ·intro h19;refine R5 ?_;exact D5 rfl (A8 rfl qz158)
  intro h19;refine R5 ?_;refine G5 i (i + 1) ?_ ?_ (H0 A4)
  ·exact ⟨by omega, by rw [hinv.2, At6 hx Br5]⟩
  omega
 intro h12 k12;have hge : l.length ≤ i := by omega
 refine R6 ?_;exact D5 rfl (A8 rfl qz158)
theorem AU6 (l : List Int) (hl : l.length ≤ 4194304) : L7 208 [ints l] [] (fun _ : Value => True) (fun v => [.arr v 3 1 (l.map fun x => [AV.int x])]) (fun v => AV.is v) := by
  refine C6 func208 rfl ntmps208 rfl ?_;refine zq104 ?_;refine P4 rfl rfl rfl rfl H7 F2 ?_;intro v3;refine R1 ?_;refine G1 (by' := 8) 0 rfl rfl rfl rfl H7 type3 rfl rfl rfl rfl rfl rfl zA zA rfl qz3 ?_;intro v5_1;refine R3 ?_;exact I5 [0] v5_1 (trivial) rfl B8 (N4 rfl (A8 rfl V5))
end Go.PQ