/- Texts of the claim, part 7. -/
import Derived.Shelf.Strconv.Itoa3
import Derived.Shelf.Strconv.ErrVarAll
import Derived.Test.YtmggojkfhodjbaaGreatDoorProg
import Derived.Shelf.Vars
import Derived.Stop.LaidErr
import Derived.Test.YtmggojkfhodjbaaGreatDoorCards
import Derived.Test.YtmggojkfhodjbaaGreatDoorTie
import Derived.Lay
import Derived.SevenTiedAt
import Derived.RangeFuncNested
import Derived.RangeFuncBound
import Derived.RangeFuncCalls
import Derived.RangeFuncLeaves
import Derived.RangeFuncBox
import Derived.Shelf.Abstract
import Derived.Shelf.RegionOpen
import Derived.WalkKit
import Derived.OwnWalkIn
import Derived.TacticsInMore
import Derived.LoopNIn
import Derived.LoopIn
import Derived.Test.YtmggojkfhodjbaaGreatDoorZHistories6
set_option linter.defProp false
set_option linter.unusedVariables false
set_option linter.unusedSimpArgs false
set_option maxRecDepth 100000
set_option maxHeartbeats 4000000
namespace Go.M
open Go.AV
theorem DY0 {g : D0} {r : N9} (h : (AK0 g r).2 = true) : 0 ≤ g.Lead := by
  unfold AK0 at h;split at h
  · rename_i hc
    rw [D8] at hc;exact (Aq2.1 hc.1.1).2.1
  · cases h
theorem put_in {g : D0} {r : N9} (hc : (!((!j5 g || decide (g.Lead < 0)) || !BG4 r)) = true) : 0 ≤ g.Lead ∧ g.Lead < g.Reps.length := by
  simp only [q7, AE4, AJ5, AH1] at hc;have gg := AN7.1 hc.1.1;rcases gg.lead with e | ⟨a, b, _⟩
  · have := hc.1.2; omega
  · exact ⟨a, b⟩
theorem DN8 {g : D0} {r : N9} (hno : (AK0 g r).2 = false) (h : (((!j5 g || decide (g.Lead < 0)) || !BG4 r) || decide ((((P0 g g.Lead).Log.map K4.cs).length : Int) ≥ 60)) = false) : False := by
  rw [A7] at h;simp only [AE4, AJ5, AH1] at h;have hl : Ai8 g = true := by unfold Ai8; rw [h.1.1.1, q8 (by have := h.1.1.2; omega)]; rfl
  unfold AK0 at hno;rw [D3 ⟨by rw [hl, Ax0, h.1.2]; rfl, by have := h.2; omega⟩] at hno
  cases hno
theorem getD_row {l : List Str} {i : Nat} (h : i < l.length) : (l.map fun s => [AV.str s])[((i : Nat) : Int).toNat]? = some [AV.str (l.getD i [])] := by
  rw [AA4, Z5, P2 h, AH2, List.getD_eq_getElem?_getD, P2 h]; rfl
theorem Ct0 {l : List Str} {i : Nat} (h : i < l.length) : l[i]? = some (l.getD i []) := by
  rw [P2 h, List.getD_eq_getElem?_getD, P2 h]; rfl
theorem Cc1 {l : List Str} {k : Str} {i : Nat} (hi : i ≤ AC7 l k) (h : (decide ((i : Int) < (l.length : Int)) && leS (l.getD i []) k) = true) : i < l.length ∧ i + 1 ≤ AC7 l k := by
  simp only [D8, H5] at h;have hl : i < l.length := by omega
  refine ⟨hl, ?_⟩;rcases Nat.lt_or_ge i (AC7 l k) with h1 | h1
  · exact h1
  · have := (CB9 (k := k) (Ct0 hl)).2 qz8
    rw [h.2] at this; cases this
theorem DY1 {l : List Str} {k : Str} {i : Nat} (hi : i ≤ AC7 l k) (h : (decide ((i : Int) < (l.length : Int)) && leS (l.getD i []) k) = false) : i = AC7 l k := by
  have hle := CB8 l k;rcases Nat.lt_or_ge i (AC7 l k) with h1 | h1
  · have hl : i < l.length := by omega
    rw [(CB9 (k := k) (Ct0 hl)).1 h1, q8 qz8] at h; cases h
  · omega
def AM9 : List Int → Int → List Int
  | [], n => [n]
  | x :: l, n => if x < n then x :: AM9 l n else if x = n then x :: l else n :: x :: l
theorem Cc2 {l : List Int} {n x : Int} : x ∈ AM9 l n ↔ x = n ∨ x ∈ l := by
  induction l with
  | nil => simp [AM9]
  | cons y l ih =>
    unfold AM9;split
    · simp only [T0, ih]; constructor <;> rintro (h | h | h) <;> simp [h]
    · split
      · rename_i h; subst h; simp
      · simp
theorem Ct1 {l : List Int} {n : Int} (h : l.Pairwise (· < ·)) : (AM9 l n).Pairwise (· < ·) := by
  induction l with
  | nil => simp [AM9]
  | cons y l ih =>
    obtain ⟨h1, h2⟩ := AH3.1 h;unfold AM9;split
    · rename_i hy
      refine AH3.2 ⟨fun z hz => ?_, ih h2⟩;rcases Cc2.1 hz with rfl | hz
      · exact hy
      · exact h1 z hz
    · split
      · exact h
      · rename_i h3 h4
        refine AH3.2 ⟨fun z hz => ?_, h⟩;rcases T0.1 hz with rfl | hz
        · omega
        · have := h1 z hz; omega
def BA3 (cuts ks : List Str) : List Int := ks.foldl (fun a k => AM9 a (AC7 cuts k)) []
theorem BW4 {cuts : List Str} : ∀ {ks : List Str} {a : List Int}, a.Pairwise (· < ·) → (ks.foldl (fun a k => AM9 a (AC7 cuts k)) a).Pairwise (· < ·) ∧ ∀ z, z ∈ ks.foldl (fun a k => AM9 a (AC7 cuts k)) a ↔ z ∈ a ∨ ∃ k ∈ ks, z = (AC7 cuts k : Int)
  | [], a, h => ⟨h, fun z => by simp⟩
  | k :: ks, a, h => by
    obtain ⟨h1, h2⟩ := BW4 (cuts := cuts) (ks := ks) (Ct1 (n := (AC7 cuts k : Int)) h);refine ⟨h1, fun z => ?_⟩;show z ∈ ks.foldl (fun a k => AM9 a (AC7 cuts k)) (AM9 a (AC7 cuts k)) ↔ _
    rw [h2, Cc2];simp only [T0, exists_eq_or_imp];constructor
    · rintro ((h | h) | h)
      · exact .inr (.inl h)
      · exact .inl h
      · exact .inr (.inr h)
    · rintro (h | h | h)
      · exact .inl (.inr h)
      · exact .inl (.inl h)
      · exact .inr h
def orderR (o : Ah9) : Bool := T2 ⟨1, o.Txn, 1, 0, o.Reads, o.Writes, false⟩
theorem CK3 {n : Int} : ∀ {l : List Int} {i : Nat}, (∀ j x, j < i → l[j]? = some x → x < n) → i ≤ l.length → (∀ x, l[i]? = some x → ¬ x < n) →
    (∀ x, l[i]? = some x → x = n → AM9 l n = l) ∧ ((∀ x, l[i]? = some x → x ≠ n) → AM9 l n = l.take i ++ n :: l.drop i)
  | [], i, _, hi, _ => by simp at hi; subst hi; exact ⟨fun x hx => by simp at hx, fun _ => rfl⟩
  | y :: l, 0, _, _, h2 => by
    have h := h2 y rfl;unfold AM9;rw [C5 h];refine ⟨fun x hx hn => ?_, fun hn => ?_⟩
    · simp at hx; subst hx; rw [D3 hn]
    · rw [C5 (hn y rfl)]; rfl
  | y :: l, i + 1, h1, hi, h2 => by
    have hy := h1 0 y qz8 rfl;obtain ⟨k1, k2⟩ := CK3 (n := n) (l := l) (i := i) (fun j x hj hx => h1 (j + 1) x qz8 AT1) (by simpa using hi) (fun x hx => h2 x AT1);unfold AM9;rw [D3 hy];refine ⟨fun x hx hn => by rw [k1 x AT1 hn], fun hn => by rw [k2 fun x hx => hn x AT1]; rfl⟩
theorem DY2 (l : List Int) (n : Int) : (AM9 l n).length ≤ l.length + 1 := by
  induction l with
  | nil => simp [AM9]
  | cons y l ih =>
    unfold AM9;split
    · rw [I9, I9]; omega
    · split <;> simp
theorem DB3 {l ks : List Str} {i : Nat} {k : Str} (h : ks[i]? = some k) : BA3 l (ks.take (i + 1)) = AM9 (BA3 l (ks.take i)) (AC7 l k) := by
  unfold BA3;rw [W1, h, List.foldl_append]; rfl
theorem CK4 (l : List Str) : ∀ (ks : List Str), (BA3 l ks).length ≤ ks.length := by
  have key : ∀ (ks : List Str) (a : List Int), (ks.foldl (fun a k => AM9 a (AC7 l k)) a).length ≤ a.length + ks.length := by
    intro ks;induction ks with
    | nil => intro a; exact N2 _
    | cons k ks ih =>
      intro a;have h1 := ih (AM9 a (AC7 l k));have h2 := DY2 a (AC7 l k);rw [List.foldl_cons, I9]; omega
  intro ks;have := key ks [];unfold BA3; simpa using this
end Go.M
namespace Go.PQ
open Go.Proofs Go.Proofs.Tryz
open Go Go.AV Go.M
attribute [local irreducible] OpW OpA OpS AWP K6 L8 K8 OpE K7 I7 L1 Le Ev G4 M7 j0 Int.tmod Int.tdiv IntKind.wrap T3
def F7.ocs (r : F7) (y : Value) : List AV := [AV.bool r.Up, AV.is y, AV.int r.Sure]
def F7.ow (r : F7) (y : Value) : List Go.AV.Own := [.arr y 192 8 (r.Log.map K4.cs)]
theorem F7.lcM {own : List Go.AV.Own} (r : F7) (y : Value) (h : ∀ o ∈ F7.ow r y, o ∈ own) : AH5 own (F7.ocs r y) r.cs := C1 E4 (C1 (K3 (h _ (C2 (i := 0) rfl)) F6) AI4)
theorem DN9 (g : D0) (hs : g.size ≤ 1048576) : L7 209 [AV.agg g.cs] [] (fun x : Value × List Value => x.2.length = g.Reps.length) (fun x => .arr x.1 141 3 (J9 F7.ocs g.Reps x.2) :: nin F7.ow g.Reps x.2) (fun x => AV.agg [AV.is x.1, AV.int g.Term, AV.int g.Lead]) := by
 have hrs : C9 F7.size g.Reps ≤ 1048576 := hs;have hll : g.Reps.length ≤ 1048576 := L4 O2 hrs;refine C6 func209 rfl ntmps209 rfl ?_;refine R3 ?_;intro b1;refine R1 ?_;intro b2;refine R3 ?_;refine P4 rfl rfl rfl rfl I0 L0 ?_;intro v5;refine R4 ?_;refine O4 0 rfl fun one_v5 => ?_;refine zq117 ?_;intro b3;refine R8 ?_;refine zL [0, 1, 1, 0] ?_;refine V8 [(1, _), (2, _), (3, _)] [] (fun (i : Nat) (v : Value) (xs : List Value) => i ≤ g.Reps.length ∧ xs.length = i) (fun i v xs => [.box b3 93 [AV.is v, AV.int g.Term, AV.int g.Lead], .box b2 93 (List.map u7 (Value.agg #[E8, Value.int IntKind.i64 0, Value.int IntKind.i64 0]).cells.toList), .box b1 93 g.cs, .arr v 141 3 (J9 F7.ocs (g.Reps.take i) xs)] ++ (nin F7.ow (g.Reps.take i) xs)) (fun i v xs => [(4, AV.int i)]) (fun i v xs => g.Reps.length - i) (0) (v5) ([]) ?_ (K5 B8 A4) ?_
 ·exact zq8
 intro i v xs hinv;refine G6 (S0 _) ?_;refine zK ?_ ?_
 ·intro h15 k15;have hlt : i < g.Reps.length := Bb0;obtain ⟨x, hx⟩ := B3 hlt;have hsx : C9 K4.size x.Log ≤ 1048576 := L4 (Y4 (f := F7.size) hx) hrs;refine R3 ?_;refine O5 _ [(0, false), (1, false), (2, false), (3, false), (4, false), (5, false), (6, false), (7, false), (8, false), (9, false), (10, false), (11, false), (12, false), (13, false), (15, false), (16, false), (17, false), (18, false), (19, false), (20, false), (14, true), (21, false), (22, false), (23, true)] E6 E6 rfl (S1 3) ?_;refine zq189 ?_;refine zq189 ?_;refine zq189 ?_;refine R2 ?_;refine S8 rfl rfl rfl (U8 4 (fun _ => rfl) (AC5 4 (P3 [] rfl call241 rfl (Bp6 x.Log hsx) I4 rfl))) (fun a _ => qz4) ?_;intro x32 ok32;have one_x32 := ok32.2
  replace ok32 := ok32.1
  refine P7 rfl rfl rfl (fun ext => i6 (places := #[(0, 1), (1, 1), (2, 1)]) rfl AD8 zeroValue141 (fun w => by kernel_rfl) rfl (D7 zA (AX3 _) (D7 zA (L2 one_x32) (D7 zA (W9 _ _) V1))) rfl) ?_;refine R1 ?_;refine S8 rfl rfl rfl (L9 (by' := 40) 3 rfl I0 type141 rfl rfl rfl rfl rfl rfl zA zA rfl Bb5) (fun a _ => qz4) ?_;intro v41_1 _;refine R2 ?_;refine O4 3 rfl fun one_v41_1 => ?_;refine M4 0 rfl rfl rfl zA zA (L2 one_v41_1) rfl Ad7 rfl ?_;refine R1 ?_;refine zL [0, 0, 0, 0, 0] ?_;refine AWP.le (S6 4 (t := nin F7.ow (g.Reps.take (i + 1)) (xs ++ [x32])) (Ag0 (ow := F7.ow) (x := x32) hx hinv.2)) ?_;refine R5 ?_;refine P6 i v xs (i + 1) (v41_1) (xs ++ [x32]) ?_ ?_ (Le.trans (B4 [0, 0, 0, 0] rfl) (K5 (Eq.trans (by exact E5 (fun z => Go.AV.Own.box _ _ _ :: Go.AV.Own.box _ _ _ :: Go.AV.Own.box _ _ _ :: Go.AV.Own.arr _ _ _ z :: _) (AY9 hx hinv.2)) (S0 _).symm) A4))
  ·exact ⟨by omega, by rw [G3, hinv.2]; rfl⟩
  omega
 intro h15 k15;have hge : i = g.Reps.length := (by have h9 : g.Reps.length ≤ i := Bb0; omega);have hxs := hinv.2.trans hge;rw [show g.Reps.take i = g.Reps from T4 qz8];refine R7 ?_;exact G8 [3] 3 (nin F7.ow g.Reps xs) (v, xs) (hxs) rfl B8 (N4 rfl (F5 (ys := _) 1 rfl rfl P5 E7 rfl))
theorem DY3 {own : List Go.AV.Own} {l : List F7} {xs : List Value} {k : Nat} (hm : ∀ o ∈ nin F7.ow (l.eraseIdx k) (xs.eraseIdx k), o ∈ own) {j : Nat} {p : F7} {x : Value} (hp : l[j]? = some p) (hx : xs[j]? = some x) (hj : j ≠ k) : ∀ o ∈ F7.ow p x, o ∈ own := fun o ho => by
  by_cases h : j < k
  · exact hm o (Bt0 (i := j) (by rw [List.getElem?_eraseIdx, D3 h]; exact hp) (by rw [List.getElem?_eraseIdx, D3 h]; exact hx) o ho)
  · exact hm o (Bt0 (i := j - 1) (by rw [List.getElem?_eraseIdx, C5 qz8, show j - 1 + 1 = j by omega]; exact hp) (by rw [List.getElem?_eraseIdx, C5 qz8, show j - 1 + 1 = j by omega]; exact hx) o ho)
theorem DY4 {own : List Go.AV.Own} {l : List F7} {xs : List Value} {k : Nat} {p p' : F7} {y : Value} (hlen : xs.length = l.length) (hp : l[k]? = some p) (hy : xs[k]? = some y) (hm : ∀ o ∈ nin F7.ow (l.eraseIdx k) (xs.eraseIdx k), o ∈ own) : BE4 own (J9 F7.ocs (l.take k) (xs.take k) ++ p'.cs :: J9 F7.ocs (l.drop (k + 1)) (xs.drop (k + 1))) ((l.set k p').map F7.cs) := by
  have hk := (G2.1 hp).1;have ht := AT3 (ocs := F7.ocs) hp hy;refine ⟨by rw [Bd5 hp hy hlen, A7, Z1], fun j a b ha hb => ?_⟩;rw [Z5] at hb;by_cases hj : j = k
  · subst hj
    rw [AZ9 hk] at hb;rw [Ao7 qz8, ht, Nat.sub_self, Bb9] at ha;injection ha with ha; injection hb with hb; subst ha; subst hb
    exact AI4
  · rw [Aj7 (fun e => hj e.symm)] at hb
    cases hq : l[j]? with
    | none => rw [hq] at hb; cases hb
    | some q =>
      rw [hq] at hb;injection hb with hb
      have hjl := (G2.1 hq).1;obtain ⟨x, hx⟩ : ∃ x, xs[j]? = some x := ⟨_, P2 qz8⟩;have ha2 : (J9 F7.ocs l xs)[j]? = some a := by
        rw [AU3 hp hy];by_cases h : j < k
        · rw [As0 qz8] at ha ⊢; exact ha
        · rw [Ao7 qz8] at ha ⊢
          obtain ⟨m, hm9⟩ : ∃ m, j - (J9 F7.ocs (l.take k) (xs.take k)).length = m + 1 := ⟨j - k - 1, by omega⟩;rw [hm9] at ha ⊢;rw [BQ9] at ha ⊢;exact ha
      rw [X6 hq hx] at ha2;injection ha2 with ha2
      subst ha2; subst hb;exact F7.lcM q x (DY3 hm hq hx hj)
theorem DB4 (R : List F7) (tm : Int) (k : Nat) (L : F7) (r : N9) (hL : R[k]? = some L) (hs : (D0.mk R tm k).size ≤ 1000000) (hrs : r.size ≤ 1000) (hg : j5 ⟨R, tm, k⟩ = true) (hgr : T2 r = true) (hlen : L.Log.length < 60) : L7 278 [AV.agg (D0.mk R tm k).cs, AV.agg r.cs] [] (fun x : Value × List Value => x.2.length = R.length) (fun x => .arr x.1 141 3 (J9 F7.ocs (R.take k) (x.2.take k) ++ (F7.mk L.Up (L.Log ++ [⟨tm, r⟩]) L.Sure).cs :: J9 F7.ocs (R.drop (k + 1)) (x.2.drop (k + 1))) :: nin F7.ow (R.eraseIdx k) (x.2.eraseIdx k)) (fun x => AV.tup [AV.agg [AV.is x.1, AV.int tm, AV.int (k : Int)], AV.bool true]) := by
 have hrsz : C9 F7.size R ≤ 1000000 := hs;have hkl := (G2.1 hL).1;have hlsz : C9 K4.size L.Log ≤ 1000000 := L4 (Y4 (f := F7.size) hL) hrsz;have hnew : C9 K4.size (L.Log ++ [⟨tm, r⟩]) ≤ 1048576 := by
  have e : C9 K4.size (L.Log ++ [⟨tm, r⟩]) = C9 K4.size L.Log + (1 + r.size) := by
   unfold C9; rw [X8, List.sum_append]; simp [K4.size]; omega
  omega
 have hld : (D0.mk R tm (k : Int)).Lead = (k : Int) := rfl;have hrl : (D0.mk R tm (k : Int)).Reps.length = R.length := rfl;have hcall : E1 241 [AV.list 8 (L.Log.map K4.cs ++ [K4.cs (K4.mk tm r)])] (AV.list 8 ((L.Log ++ [K4.mk tm r]).map K4.cs)) := by
  have h := BH3 (L.Log ++ [⟨tm, r⟩]) hnew;rw [X8] at h ⊢;exact h
 refine C6 func278 rfl ntmps278 rfl ?_;refine R3 ?_;intro b2;refine R1 ?_;intro b3;refine R1 ?_;intro b4;refine zq125 ?_;refine T6 rfl (fun hc => C8 rfl I0 L0 (A9 rfl hc) (A9 rfl hc) hL qz6) ?_;refine zC ?_ ?_
 ·intro h30;exfalso; rw [hg, ← Ax0, hgr] at h30; simp at h30; omega
 intro h30;refine R4 ?_;refine Au9 [] 3 1 ([]) ([]) (fun zz => nin F7.ow R zz.2) rfl rfl rfl rfl call209 rfl rfl (show List.Perm ([]) (([]) ++ ([])) from List.Perm.refl _) (DN9 ⟨R, tm, k⟩ qz8) I4 (fun a => N3) ?_;intro x33 ok33;refine R1 ?_;intro b6;refine R3 ?_;have hln : x33.2.length = R.length := ok33;obtain ⟨y, hy⟩ := B3 (show k < x33.2.length by omega);rw [AU3 hL hy];refine AWP.le (S6 5 (t := ([Go.AV.Own.arr y 192 8 (L.Log.map K4.cs)]) ++ (nin F7.ow (R.eraseIdx k) (x33.2.eraseIdx k))) (AX4 (ow := F7.ow) hL hy)) ?_;refine O5 _ [(0, false), (1, false), (2, false), (3, false), (4, false), (5, false), (6, false), (7, false), (8, false), (9, false), (10, false), (11, false), (12, false), (13, false), (14, false), (15, false), (16, true), (17, false)] E6 E6 rfl (S1 5) ?_;refine R8 ?_;refine P7 rfl rfl rfl (fun ext => I3 1 rfl I0 L0 zA rfl zA qz8 (by rw [Bd5 hL hy hln]; omega)) ?_;refine P7 rfl rfl rfl (fun ext => L5 1 rfl AD8 rfl sizeOf139 zA rfl rfl (AK4 (AT3 hL hy))) ?_;refine P7 rfl rfl rfl (fun ext => N5 1 rfl zA rfl isAgg139 (AK4 (AT3 hL hy)) rfl) ?_;refine R5 ?_;refine S8 rfl rfl rfl (AZ2 [5] (fun _ => rfl) (fun _ => K3 (C2 (i := 0) rfl) F6) (fun _ => N7) (L9 (by' := 96) 5 rfl P8 type192 rfl rfl rfl rfl rfl rfl zA zA rfl qz3)) (fun a _ => qz4) ?_;intro v50_1 _;refine P7 rfl rfl rfl (fun ext => zG rfl call241 (hcall) I4) ?_;refine R1 ?_;refine A1 rfl (I3 1 rfl I0 L0 zA rfl zA qz8 (by rw [Bd5 hL hy hln]; omega)) ?_;refine A1 rfl (L5 1 rfl AD8 rfl sizeOf139 zA rfl rfl (AK4 (AT3 hL hy))) ?_;refine An8 1 rfl rfl rfl zA zA (m4 _ _) rfl sizeOf139 (AT3 hL hy) rfl ?_;refine R8 ?_;exact G8 [1] 4 (nin F7.ow (R.eraseIdx k) (x33.2.eraseIdx k)) (x33.1, x33.2) (ok33) rfl B8 (j9 rfl D4 (I1 (F5 (ys := _) 2 rfl rfl P5 E7 rfl) Z9))
theorem DB5 (g : D0) (r : N9) (hs : g.size ≤ 1048576) (hrs : r.size ≤ 1000) (hno : (AK0 g r).2 = false) : E1 278 [AV.agg g.cs, AV.agg r.cs] (AV.tup [AV.agg AO7.cs, AV.bool false]) := by
 refine B2 func278 rfl ntmps278 rfl ?_;refine R3 ?_;intro b2;refine R1 ?_;intro b3;refine R1 ?_;intro b4;refine zq125 ?_;refine T6 rfl (fun hc => C8 rfl I0 L0 (A9 rfl hc) (A9 rfl hc) (AC3 (put_in hc)) (by have h9 := (put_in hc).1; omega)) ?_;refine zC ?_ ?_
 ·intro h30;refine R7 ?_;refine BU8 0 0 3 rfl rfl ?_;exact Y9 rfl D4 (I1 (F5 (ys := _) 0 rfl rfl P5 E7 rfl) Z9)
 intro h30;exact (DN8 hno h30).elim
theorem Cg6 (g : D0) (r : N9) (hs : g.size ≤ 1000000) (hrs : r.size ≤ 1000) : E1 278 [AV.agg g.cs, AV.agg r.cs] (AV.tup [AV.agg (AK0 g r).1.cs, AV.bool (AK0 g r).2]) := by
  by_cases h : (Ai8 g && T2 r) = true ∧ (P0 g g.Lead).Log.length < 60
  · have he : AK0 g r = (Ae2 g g.Lead ⟨(P0 g g.Lead).Up, (P0 g g.Lead).Log ++ [⟨g.Term, r⟩], (P0 g g.Lead).Sure⟩, true) := D3 h
    have hh := h.1;rw [D8] at hh;obtain ⟨gg, l0, l1, hup⟩ := Aq2.1 hh.1;have hL := AC3 (g := g) (r := g.Lead) ⟨l0, l1⟩;rw [he];obtain ⟨R, tm, ld⟩ := g;obtain ⟨k, hk⟩ : ∃ k : Nat, ld = (k : Int) := ⟨ld.toNat, (Int.toNat_of_nonneg l0).symm⟩;subst hk;refine N1 (DB4 R tm k (P0 ⟨R, tm, k⟩ k) r hL hs hrs (AN7.2 gg) hh.2 h.2) fun x hx => ?_;have hkl := (G2.1 hL).1;have hxl : x.2.length = R.length := hx;obtain ⟨y, hy⟩ : ∃ y, x.2[k]? = some y := ⟨_, P2 (show k < x.2.length by rw [hxl]; exact hkl)⟩;exact AV2 (C1 (AQ5 (C1 (K3 a8 (DY4 hxl hL hy fun o ho => S7 _ ho)) AI4)) (C1 E4 Y2))
  · have he : AK0 g r = (AO7, false) := C5 h
    rw [he];exact DB5 g r qz8 hrs (by rw [he])
end Go.PQ
namespace Go.PQ
open Go.Proofs
open Go Go.AV Go.M
attribute [local irreducible] OpW OpA OpS AWP K6 L8 K8 OpE K7 I7 L1 Le Ev G4 M7 Int.tmod Int.tdiv IntKind.wrap
theorem BZ5 (x y : H3) : E1 119 [AV.agg x.cs, AV.agg y.cs] (AV.bool (Ar0 x y)) := by
  refine B2 Tryz.func119 rfl Tryz.ntmps119 rfl ?_;refine R3 ?_;intro b2;refine R1 ?_;intro b3;refine R27 ?_;exact zq10
theorem DY5 (l : List Int) (n : Int) : (AV8 l n).length ≤ l.length + 1 := by
  induction l with
  | nil => simp [AV8]
  | cons y l ih =>
    unfold AV8;split
    · rw [I9, I9]; omega
    · split <;> simp
theorem Ct2 {l : List H3} {x y : H3} {i : Nat} (hy : l[i]? = some y) : AG3 (l.take (i + 1)) x = if Ar0 x y = true then AV8 (AG3 (l.take i) x) y.Txn else AG3 (l.take i) x := by
  unfold AG3;rw [W1, hy, List.filter_append, List.foldl_append]
  cases h : Ar0 x y <;> simp [h]
theorem Ct3 (l : List H3) (a : List Int) : (l.foldl (fun a y => AV8 a y.Txn) a).length ≤ a.length + l.length := by
  induction l generalizing a with
  | nil => simp
  | cons y l ih => rw [List.foldl_cons]; have := ih (AV8 a y.Txn); have := DY5 a y.Txn; rw [I9]; omega
theorem By2 (l : List H3) (x : H3) : (AG3 l x).length ≤ l.length := by
  unfold AG3;have h1 := Ct3 (l.filter (Ar0 x)) [];have h2 := List.length_filter_le (Ar0 x) l;rw [Q8] at h1; omega
theorem CK5 {n : Int} : ∀ {l : List Int} {i : Nat}, (∀ j x, j < i → l[j]? = some x → x < n) → i ≤ l.length → (∀ x, l[i]? = some x → ¬ x < n) →
    (∀ x, l[i]? = some x → x = n → AV8 l n = l) ∧ ((∀ x, l[i]? = some x → x ≠ n) → AV8 l n = l.take i ++ n :: l.drop i)
  | [], i, _, hi, _ => by simp at hi; subst hi; exact ⟨fun x hx => by simp at hx, fun _ => rfl⟩
  | y :: l, 0, _, _, h2 => by
    have h := h2 y rfl;unfold AV8;rw [C5 h];refine ⟨fun x hx hn => ?_, fun hn => ?_⟩
    · simp at hx; subst hx; rw [D3 hn]
    · rw [C5 (hn y rfl)]; rfl
  | y :: l, i + 1, h1, hi, h2 => by
    have hy := h1 0 y qz8 rfl;obtain ⟨k1, k2⟩ := CK5 (n := n) (l := l) (i := i) (fun j x hj hx => h1 (j + 1) x qz8 AT1) (by simpa using hi) (fun x hx => h2 x AT1);unfold AV8;rw [D3 hy];refine ⟨fun x hx hn => by rw [k1 x AT1 hn], fun hn => by rw [k2 fun x hx => hn x AT1]; rfl⟩
theorem DG5 {p : Prop} (h : p := by
 refine B2 Tryz.func171 rfl Tryz.ntmps171 rfl ?_;refine R2 ?_;refine zq55 ?_;refine R7 ?_;refine F8 [(0, _), (1, _), (4, _)] _ (fun (i : Nat) => i ≤ l.length ∧ ∀ j x, j < i → l[j]? = some x → x < n) (fun i => []) (fun i => [(5, AV.int i)]) (fun i => l.length - i) (0) ?_ (H0 A4) ?_
 ·exact ⟨E2 _, fun j x h => by omega⟩
 intro i hinv;obtain ⟨x, hx⟩ := Ai2 l i;have hx0 : i < l.length → l[i]? = some x := hx;refine R10 ?_;refine J6 rfl (fun hc => C8 rfl H7 F2 (A9 rfl hc) (A9 rfl hc) (hx qz6) qz6) ?_;refine zC ?_ ?_
 ·intro h18;have hb : i < l.length ∧ x < n := by simpa using h18
  refine R7 ?_;refine Ap7 ?_;refine G5 i (i + 1) ?_ ?_ (H0 A4)
  ·exact ⟨by omega, fun j y hj hy => (Nat.lt_or_ge j i).elim (fun h => hinv.2 j y h hy) (fun h => by (obtain rfl : j = i := by omega); rw [hx0 hb.1] at hy; injection hy with hy; omega)⟩
  omega
 intro h18;have hb : i < l.length → ¬ x < n := fun h => by simpa [h] using h18
 obtain ⟨hs1, hs2⟩ := tw8x0 hinv.2 hinv.1 (fun z hz => by (have hzl := (G2.1 hz).1; rw [hx0 hzl] at hz; injection hz with hz; subst hz; exact hb hzl));refine R11 ?_;refine J6 rfl (fun hc => C8 rfl H7 F2 (A9 rfl hc) (A9 rfl hc) (hx qz6) qz6) ?_;refine zC ?_ ?_
 ·intro h32;have hc : i < l.length ∧ x = n := by simpa using h32
  have he := hs1 x (hx0 hc.1) hc.2;rw [he];refine R6 ?_;exact D5 rfl (A8 rfl qz193)
 intro h32;have hc : i < l.length → x ≠ n := fun h => by simpa [h] using h32
 have he := hs2 (fun z hz => by (have hzl := (G2.1 hz).1; rw [hx0 hzl] at hz; injection hz with hz; subst hz; exact hc hzl));rw [he];refine R3 ?_;refine P4 rfl rfl rfl rfl H7 F2 ?_;intro v34;refine R2 ?_;refine A1 rfl (AN5 rfl H7 F2 zA zA qz3 qz3) ?_;refine G1 (by' := 8) 0 rfl rfl rfl rfl H7 Tryz.type3 rfl rfl rfl rfl rfl rfl zA zA rfl (by simp only [A7, H4, Q8]; omega) ?_;intro v38_1;refine R7 ?_;refine G1 (by' := 8) 0 rfl rfl rfl rfl H7 Tryz.type3 rfl rfl rfl rfl rfl rfl zA zA rfl CP9 ?_;intro v42_2;refine R7 ?_;refine A1 rfl (BR3 rfl H7 F2 zA zA qz3 qz3) ?_;refine G1 (by' := 8) 0 rfl rfl rfl rfl H7 Tryz.type3 rfl rfl rfl rfl rfl rfl zA zA rfl CP9 ?_;intro v47_3;refine R3 ?_;refine Ak7 0 4 rfl rfl ?_;exact D5 rfl (A8 rfl qz193)) : p := h
namespace tw8n0
def tw8x0 := @CK5
end tw8n0
open tw8n0 in
theorem DO0 (l : List Int) (n : Int) (hl : l.length ≤ 4194303) : E1 171 [ints l, AV.int n] (ints (AV8 l n)) := DG5
theorem Ct4 (l : List H3) (x : H3) (hl : l.length ≤ 4194303) : E1 373 [AV.list 3 (l.map H3.cs), AV.agg x.cs] (ints (AG3 l x)) := by
 refine B2 Tryz.func373 rfl Tryz.ntmps373 rfl ?_;refine R3 ?_;intro b3;refine zq55 ?_;refine R3 ?_;refine zq55 ?_;refine R9 ?_;refine F8 [(3, _), (4, _), (8, _), (9, _)] _ (fun (i : Nat) => i ≤ l.length) (fun i => []) (fun i => [(5, ints (AG3 (l.take i) x)), (10, AV.int i)]) (fun i => l.length - i) (0) ?_ (H0 A4) ?_
 ·exact E2 _
 intro i hinv;refine zK ?_ ?_
 ·intro h11 k11;have hlt : i < l.length := by omega
  obtain ⟨y, hy⟩ := B3 hlt;have hwt := Ct2 (x := x) hy;have hwl := By2 (l.take i) x;rw [H4] at hwl;refine zq106 ?_;intro b7;refine R6 ?_;refine zF rfl Tryz.call119 (BZ5 _ _) F4 ?_;refine zC ?_ ?_
  ·intro h16;have hout : AV8 (AG3 (l.take i) x) y.Txn = AG3 (l.take (i + 1)) x := by rw [hwt, D3 h16]
   refine R4 ?_;refine zF rfl Tryz.call171 (DO0 _ _ W5) (A2 (A0 rfl) (A2 (A0 rfl) B0)) ?_;refine R6 ?_;refine G5 i (i + 1) ?_ ?_ (S4 1 ⟨E5 (fun z => some (ints z)) hout, rfl, rfl, rfl, rfl, rfl, trivial⟩)
   ·omega
   omega
  intro h16;have hout : AG3 (l.take i) x = AG3 (l.take (i + 1)) x := by rw [hwt, C5 (by rw [h16]; decide)]
  refine R5 ?_;refine G5 i (i + 1) ?_ ?_ (S4 1 ⟨E5 (fun z => some (ints z)) hout, rfl, rfl, rfl, rfl, rfl, trivial⟩)
  ·omega
  omega
 intro h11 k11;have hge : l.length ≤ i := by omega
 rw [T4 hge];refine R7 ?_;exact zq5
theorem Ct5 (l : List H3) (fixed : List Int) (x : H3) (hl : l.length ≤ 4194303) : E1 363 [AV.list 3 (l.map H3.cs), ints fixed, AV.agg x.cs] (AV.tup [AV.int (Az8 l fixed x (AG3 l x)).1, ints (Az8 l fixed x (AG3 l x)).2]) := by
 obtain ⟨w, hw⟩ : ∃ w, AG3 l x = w := ⟨_, rfl⟩;have hwl := By2 l x;rw [hw] at hwl;refine B2 Tryz.func363 rfl Tryz.ntmps363 rfl ?_;refine R3 ?_;intro b5;refine R1 ?_;refine zq55 ?_;refine R5 ?_;refine zF rfl Tryz.call373 (Ct4 _ _ W5) (A2 (A0 rfl) (A2 (A0 rfl) B0)) ?_;refine R4 ?_;rw [hw];refine zC ?_ ?_
 ·intro h16;have k16 := J3 h16;(try simp only [A7] at k16);have he : Az8 l fixed x w = (1, []) := by (unfold Az8; rw [D3 qz8])
  rw [he];refine R3 ?_;refine zq55 ?_;refine R2 ?_;exact zq66
 intro h16;have k16 := J0 h16;(try simp only [A7] at k16);refine R9 ?_;refine F8 [(1, _), (5, _), (8, _), (17, _), (18, _)] _ (fun (i : Nat) => i ≤ w.length ∧ (w.any fun t => decide (t < x.Txn) || fixed.any fun y => t == y) = ((w.drop i).any fun t => decide (t < x.Txn) || fixed.any fun y => t == y)) (fun i => []) (fun i => [(19, AV.int i)]) (fun i => w.length - i) (0) ?_ (H0 A4) ?_
 ·exact zq8
 intro i hinv;refine zK ?_ ?_
 ·intro h20 k20;have hlt : i < w.length := by omega
  obtain ⟨y, hx⟩ := B3 hlt;refine zq83 ?_;refine R12 ?_;refine T6 rfl (fun hc => zG rfl Tryz.call374 (DX7 _ _) zS) ?_;refine zC ?_ ?_
  ·intro h31;have hany : (w.any fun t => decide (t < x.Txn) || fixed.any fun y => t == y) = true := by (rw [hinv.2, J7 hx, Aj8, h31]; rfl)
   have he : Az8 l fixed x w = (2, []) := by (unfold Az8; rw [C5 qz8, D3 hany])
   rw [he];refine R3 ?_;refine zq55 ?_;refine R2 ?_;exact zq66
  intro h31;refine R5 ?_;refine G5 i (i + 1) ?_ ?_ (H0 A4)
  ·exact ⟨by omega, by rw [hinv.2, J7 hx, Aj8, h31]; rfl⟩
  omega
 intro h20 k20;have hge : w.length ≤ i := by omega
 have hany : (w.any fun t => decide (t < x.Txn) || fixed.any fun y => t == y) = false := by (rw [hinv.2, n5 hge]; rfl)
 have he : Az8 l fixed x w = (3, w) := by (unfold Az8; rw [C5 qz8, C5 (by rw [hany]; decide)])
 rw [he];refine R8 ?_;exact zq66
theorem CK6 {α β : Type} {c : α → β} : ∀ {l : List α} {k : Nat} {y : α}, l[k]? = some y → l.map c = (l.take k).map c ++ c y :: (l.drop (k + 1)).map c
  | [], k, y, h => by simp at h
  | x :: l, 0, y, h => by simp at h; subst h; rfl
  | x :: l, k + 1, y, h => by
    rw [j4, CK6 (c := c) (l := l) (k := k) (y := y) Aj4]; rfl
theorem map_len9 {α β : Type} {c : α → β} {l : List α} {k : Nat} {y : α} (h : l[k]? = some y) : ((l.take k).map c).length = k := by
  have := (G2.1 h).1;rw [A7, H4]; omega
theorem By3 {l : List H3} {x : H3} {i : Nat} (h : AO5 l x = l.take i ++ AO5 (l.drop i) x) {y : H3} (hy : l[i]? = some y) :
    (((y.Key == x.Key) && (y.Txn == x.Txn)) = true → AO5 l x = l.take i ++ ⟨y.Key, y.Txn, y.Write || x.Write⟩ :: l.drop (i + 1)) ∧ (((y.Key == x.Key) && (y.Txn == x.Txn)) = false → AO5 l x = l.take (i + 1) ++ AO5 (l.drop (i + 1)) x) := by
  rw [J7 hy] at h;constructor
  · intro hc
    rw [h]; unfold AO5; rw [hc, D3 rfl]
  · intro hc
    rw [h, W1, hy]; rw [AO5, hc, C5 D4]; simp
theorem Cg7 (l : List H3) (x : H3) (hl : l.length ≤ 4194303) : E1 364 [AV.list 3 (l.map H3.cs), AV.agg x.cs] (AV.list 3 ((AO5 l x).map H3.cs)) := by
 refine B2 Tryz.func364 rfl Tryz.ntmps364 rfl ?_;refine R3 ?_;intro b3;refine zq35 ?_;refine R3 ?_;refine P4 rfl rfl rfl rfl U5 q9 ?_;intro v8;refine R1 ?_;refine G1 (by' := 32) 0 rfl rfl rfl rfl U5 Tryz.type146 rfl rfl rfl rfl rfl rfl zA zA rfl qz3 ?_;intro v10_1;refine R10 ?_;refine G6 (E5 (fun z => Own.arr v10_1 146 3 z :: _) (AO1 _)) ?_;refine F8 [(3, _), (5, _), (11, _), (12, _)] _ (fun (i : Nat) => i ≤ l.length ∧ AO5 l x = l.take i ++ AO5 (l.drop i) x) (fun i => []) (fun i => [(13, AV.int i)]) (fun i => l.length - i) (0) ?_ (H0 A4) ?_
 ·exact zq8
 intro i hinv;refine zK ?_ ?_
 ·intro h14 k14;have hlt : i < l.length := by (simp only [G3, Q8, A7, W7] at k14; omega)
  obtain ⟨y, hy⟩ := B3 hlt;refine R6 ?_;refine A1 rfl (I3 0 rfl U5 q9 zA rfl zA qz8 qz187) ?_;refine A1 rfl (w5 0 rfl zA rfl Tryz.isAgg146 q9 (by rw [AA4, Z5, hy]; rfl) D4) ?_;refine R1 ?_;intro b7;refine zC ?_ ?_
  ·intro h29;have he := (By3 hinv.2 hy).1 h29;have hA := map_len9 (c := H3.cs) hy;rw [he, X8, j4];refine G6 (E5 (fun z => _ :: Own.arr v10_1 146 3 z :: _) (CK6 hy)) ?_;refine R10 ?_;refine A1 rfl (I3 1 rfl U5 q9 zA rfl zA qz8 qz187) ?_;refine A1 rfl (L5 1 rfl Tryz.underlying146 rfl T7 zA rfl rfl (AK4 qz3)) ?_;refine An8 1 rfl rfl rfl zA zA (AX3 _) rfl T7 qz3 rfl ?_;refine R7 ?_;refine Ak7 1 4 rfl rfl ?_;exact zq5
  intro h29;refine R5 ?_;refine G5 i (i + 1) ?_ ?_ (S4 1 A4)
  ·exact ⟨by omega, (By3 hinv.2 hy).2 h29⟩
  omega
 intro h14 k14;have hge : l.length ≤ i := by (simp only [G3, Q8, A7, W7] at k14; omega)
 have he : AO5 l x = l ++ [x] := by (have := hinv.2; rwa [T4 hge, n5 hge] at this)
 rw [he, X8, j4];refine R6 ?_;refine G1 (by' := 32) 0 rfl rfl rfl rfl U5 Tryz.type146 rfl rfl rfl rfl rfl rfl zA zA rfl (by rw [A7, W7]; omega) ?_;intro v45_2;refine R3 ?_;refine Ak7 0 4 rfl rfl ?_;exact zq5
def Ae4 (l : List H3) (t : Int) (of : Bool) : List H3 := l.filter fun y => ((y.Txn == t) == of)
theorem DB6 {l : List H3} {t : Int} {of : Bool} {i : Nat} {y : H3} (hy : l[i]? = some y) : (Ae4 (l.take (i + 1)) t of).map H3.cs = (Ae4 (l.take i) t of).map H3.cs ++ (if ((y.Txn == t) == of) = true then [H3.cs y] else []) := by
  unfold Ae4;rw [W1, hy, List.filter_append, X8]
  cases h : ((y.Txn == t) == of) <;> simp [h]
theorem DO1 (l : List H3) (t : Int) (of : Bool) : (Ae4 l t of).length ≤ l.length := List.length_filter_le _ _
theorem DB7 (l : List H3) (t : Int) (of : Bool) (hl : l.length ≤ 4194303) : E1 322 [AV.list 3 (l.map H3.cs), AV.int t, AV.bool of] (AV.list 3 ((Ae4 l t of).map H3.cs)) := by
 refine B2 Tryz.func322 rfl Tryz.ntmps322 rfl ?_;refine R2 ?_;refine zq35 ?_;refine R3 ?_;refine V0 146 3 rfl rfl rfl rfl I2 ?_;intro v7;refine R9 ?_;refine J5 [(1, _), (2, _), (6, _), (10, _), (11, _)] _ (fun (i : Nat) (v : Value) => i ≤ l.length) (fun i v => [.arr v 146 3 ((Ae4 (l.take i) t of).map H3.cs)]) (fun i v => [(7, AV.is v), (12, AV.int i)]) (fun i v => l.length - i) (0) (v7) ?_ (K5 B8 A4) ?_
 ·exact E2 _
 intro i v hinv;refine zK ?_ ?_
 ·intro h13 k13;have hlt : i < l.length := by omega
  obtain ⟨y, hy⟩ := B3 hlt;have hst := DB6 (t := t) (of := of) hy;have hpl := DO1 (l.take i) t of;rw [H4] at hpl;refine zq106 ?_;intro b9;refine R9 ?_;refine A1 rfl (BM7 rfl W4 zA zA) ?_;refine zC ?_ ?_
  ·intro h21;have hout : (Ae4 (l.take i) t of).map H3.cs ++ [H3.cs y] = (Ae4 (l.take (i + 1)) t of).map H3.cs := by rw [hst, D3 h21]
   refine R4 ?_;refine G1 (by' := 32) 1 rfl rfl rfl rfl U5 Tryz.type146 rfl rfl rfl rfl rfl rfl zA zA rfl (by rw [A7, W7]; omega) ?_;intro v25_1;refine R6 ?_;refine G0 i v (i + 1) (v25_1) ?_ ?_ (Le.trans (B4 [0, 0] rfl) (C7 1 (by exact E5 (fun z => [Own.arr _ 146 3 z]) hout) A4))
   ·omega
   omega
  intro h21;have hout : (Ae4 (l.take i) t of).map H3.cs = (Ae4 (l.take (i + 1)) t of).map H3.cs := by rw [hst, C5 (by rw [h21]; decide), S0]
  refine R5 ?_;refine G0 i v (i + 1) (v) ?_ ?_ (Le.trans (B4 [0, 0] rfl) (C7 1 (by exact E5 (fun z => [Own.arr _ 146 3 z]) hout) A4))
  ·omega
  omega
 intro h13 k13;have hge : l.length ≤ i := by omega
 rw [T4 hge];refine R7 ?_;refine Ak7 0 6 rfl rfl ?_;exact zq5
end Go.PQ
namespace Go.PQ
open Go.Proofs Go.Proofs.Tryz
open Go Go.AV Go.M
attribute [local irreducible] OpW OpA OpS AWP K6 L8 K8 OpE K7 I7 L1 Le Ev G4 M7 Int.tmod Int.tdiv IntKind.wrap
theorem DY6 (b : UInt8) (r : Str) : BG6 (b :: r) = (!within ((b :: r).length : Nat) 1 6 || (((b.toNat : Int) == 48) && decide ((1 : Int) < ((b :: r).length : Nat)))) := by
  unfold BG6;have : (b == 48) = ((b.toNat : Int) == 48) := by
    by_cases h : b = 48
    · subst h; rfl
    · have h2 : b.toNat ≠ 48 := fun e => h (UInt8.toNat_inj.1 e)
      have h3 : (b == 48) = false := by simpa using h
      rw [h3]; symm; simp; omega
  simp [this]
theorem dig_val9 {x : UInt8} (h : 48 ≤ x.toNat ∧ x.toNat ≤ 57) : IntKind.i64.wrap (IntKind.u8.wrap ((x.toNat : Int) - 48)) = ((x.toNat - 48 : Nat) : Int) := by
  have e : IntKind.u8.wrap ((x.toNat : Int) - 48) = ((x.toNat - 48 : Nat) : Int) := by
    simp [IntKind.wrap, IntKind.bits, IntKind.signed]; omega
  rw [e, BU2 qz8]
theorem rd_next9 {n i : Nat} {s : Str} {x : UInt8} (hx : s[i]? = some x) (h : 48 ≤ x.toNat ∧ x.toNat ≤ 57) : e6 n (s.drop i) = e6 (10 * n + (x.toNat - 48)) (s.drop (i + 1)) := by
  have hlt := (G2.1 hx).1;rw [List.drop_eq_getElem_cons hlt, (G2.1 hx).2];conv => lhs; unfold e6
  rw [D3 (by unfold BE8; simp; omega)]
theorem rd_stop9 {n i : Nat} {s : Str} {x : UInt8} (hx : s[i]? = some x) (h : x.toNat < 48 ∨ 57 < x.toNat) : e6 n (s.drop i) = -1 := by
  have hlt := (G2.1 hx).1;rw [List.drop_eq_getElem_cons hlt, (G2.1 hx).2];conv => lhs; unfold e6
  rw [C5 (by unfold BE8; simp; omega)]
theorem pow69 {i : Nat} (h : i ≤ 6) : 10 ^ i ≤ 1000000 := Nat.pow_le_pow_right D4 h
theorem pow_nx9 {n i d : Nat} (h : n + 1 ≤ 10 ^ i) (hd : d ≤ 9) : (10 * n + d) + 1 ≤ 10 ^ (i + 1) := by rw [Nat.pow_succ]; omega
theorem DB8 : E1 202 [AV.str []] (AV.int (l1R [])) := by
 refine B2 func202 rfl ntmps202 rfl ?_;refine R9 ?_;refine zq132 ?_;refine R3 ?_;refine T6 rfl (fun hc => (show OpW _ _ _ _ _ _ (AV.byte 0) from (by exfalso; revert hc; decide))) ?_;refine zC ?_ ?_
 ·intro h18;exact zq63
 intro h18;exfalso; revert h18; decide
theorem Ct6 (b : UInt8) (r : Str) (hs : (b :: r).length ≤ 1048576) : E1 202 [AV.str (b :: r)] (AV.int (l1R (b :: r))) := by
 have hb0 : (b :: r)[0]? = some b := rfl;obtain ⟨s, hse⟩ : ∃ s, b :: r = s := ⟨_, rfl⟩;have hbad := DY6 b r;rw [hse] at hs hb0 hbad ⊢;refine B2 func202 rfl ntmps202 rfl ?_;refine R9 ?_;refine zq132 ?_;refine R3 ?_;refine T6 rfl (fun hc => AY6 rfl O3 (A9 rfl hc) J4 (by have := (G2.1 hb0).1; omega) hb0) ?_;refine zC ?_ ?_
 ·intro h18;have he : l1R s = -1 := D3 (by rw [hbad]; exact h18);rw [he];exact zq63
 intro h18;have he : l1R s = e6 0 s := C5 (by rw [hbad, h18]; decide);rw [he];have hl6 : s.length ≤ 6 := (by simp only [AE4, AJ5] at h18; have h9 := h18.1; unfold within at h9; simp at h9; omega);refine R11 ?_;refine J5 [(0, _)] _ (fun (i : Nat) (n : Nat) => i ≤ s.length ∧ e6 0 s = e6 n (s.drop i) ∧ n + 1 ≤ 10 ^ i) (fun i n => []) (fun i n => [(3, AV.int n), (4, AV.int i)]) (fun i n => s.length - i) (0) (0) ?_ (H0 A4) ?_
 ·exact ⟨E2 _, rfl, by decide⟩
 intro i n hinv;have hp6 := pow69 (i := i) qz8;refine zK ?_ ?_
 ·intro h22 k22;obtain ⟨x, hx⟩ := B3 (show i < s.length by omega);refine R8 ?_;refine A1 rfl (AY6 rfl O3 zA zA qz8 hx) ?_;refine R4 ?_;refine T6 rfl (fun hc => AY6 rfl O3 (A9 rfl hc) (A9 rfl hc) qz8 hx) ?_;refine zC ?_ ?_
  ·intro h34;have hst := rd_stop9 (n := n) hx (by simp only [AB1, H5] at h34; omega);rw [hinv.2.1, hst];exact zq63
  intro h34;have hdig : 48 ≤ x.toNat ∧ x.toNat ≤ 57 := (by simp only [AE4, AH1] at h34; omega);refine R3 ?_;refine A1 rfl (Ap8 rfl J4 zA qz3) ?_;refine R2 ?_;refine A1 rfl (AY6 rfl O3 zA zA qz8 hx) ?_;refine A1 rfl (w_sub rfl zA J4) ?_;refine A1 rfl (Ap9 rfl E6 m7 zA) ?_;rw [dig_val9 hdig];refine R8 ?_;refine G0 i n (i + 1) (10 * n + (x.toNat - 48)) ?_ ?_ (H0 ⟨E5 (fun z => some (AV.int z)) qz8, rfl, rfl, trivial⟩)
  ·exact ⟨by omega, hinv.2.1.trans (rd_next9 hx hdig), pow_nx9 hinv.2.2 qz8⟩
  omega
 intro h22 k22;have hend : e6 0 s = (n : Int) := (by rw [hinv.2.1, List.drop_of_length_le qz8]; rfl);rw [hend];refine R7 ?_;exact zq5
theorem Bp7 (s : Str) (hs : s.length ≤ 1048576) : E1 202 [AV.str s] (AV.int (l1R s)) := by
  cases s with
  | nil => exact DB8
  | cons b r => exact Ct6 b r hs
theorem Ct7 (s : Str) : -1 ≤ l1R s := by
  have h : ∀ (s : Str) (n : Nat), -1 ≤ e6 n s := by
    intro s;induction s with
    | nil => intro n; unfold e6; omega
    | cons b s ih => intro n; unfold e6; split; exact ih _; omega
  unfold l1R; split
  · omega
  · exact h s 0
theorem rd_up9 : ∀ (s : Str) (n k : Nat), n + 1 ≤ 10 ^ k → e6 n s + 1 ≤ 10 ^ (k + s.length)
  | [], n, k, h => by
    have : ((n + 1 : Nat) : Int) ≤ ((10 ^ k : Nat) : Int) := Int.ofNat_le.2 h;simp only [e6, Q8, Nat.add_zero]
    push_cast at this ⊢; exact this
  | b :: s, n, k, h => by
    unfold e6;split
    · rename_i hd
      have h2 : b.toNat - 48 ≤ 9 := by unfold BE8 at hd; simp at hd; omega
      have := rd_up9 s (10 * n + (b.toNat - 48)) (k + 1) (by rw [Nat.pow_succ]; omega);rw [I9, show k + (s.length + 1) = k + 1 + s.length by omega]; exact this
    · have : (0 : Int) ≤ 10 ^ (k + (b :: s).length) := Int.pow_nonneg D4
      omega
theorem DG6 (s : Str) : l1R s ≤ 999999 := by
  unfold l1R; split
  · omega
  · rename_i h
    have hl : s.length ≤ 6 := by
      unfold BG6 within at h
      simp only [AB1, not_or] at h;have := h.1; simp at this; omega
    have h1 := rd_up9 s 0 0 D4;have h2 : (10 : Int) ^ (0 + s.length) ≤ 10 ^ 6 := by
      have := Nat.pow_le_pow_right (n := 10) D4 (show 0 + s.length ≤ 6 by omega)
      exact_mod_cast this
    omega
theorem BW5 (s : Str) (hs : s.length ≤ 1048576) : E1 168 [AV.str s] (AV.tup [AV.int (l5N s).1, AV.bool (l5N s).2]) := by
 have hlo1 := Ct7 s;have hlo2 := Ct7 (s.drop 1);have hup1 := DG6 s;have hup2 := DG6 (s.drop 1);have hd1 : (s.drop 1).length ≤ 1048576 := by rw [AD4]; omega
 obtain ⟨b0, hb0⟩ := Ai2 s 0;have hneg : (decide ((0 : Int) < (s.length : Int)) && ((b0.toNat : Int) == 45)) = decide (s.head? = some 45) := by
  cases s with
  | nil => rfl
  | cons c r =>
   have e := hb0 Y1;simp at e; subst e;rw [AW7];simp only [I9, D8, H5, i8, List.head?_cons, Option.some.injEq];constructor
   ·intro h; exact UInt8.toNat_inj.1 (by have := h.2; simp; omega)
   intro h; subst h; exact ⟨by omega, rfl⟩
 refine B2 func168 rfl ntmps168 rfl ?_;refine R12 ?_;refine J6 rfl (fun hc => AY6 rfl O3 (A9 rfl hc) J4 qz8 (hb0 Bb1)) ?_;refine R5 ?_;rw [hneg];refine zC ?_ ?_
 ·intro h16;have hh : s.head? = some 45 := AD2 h16;have hbody : (if s.head? = some 45 then s.drop 1 else s) = s.drop 1 := D3 hh;have hl1 : 1 ≤ s.length := by (cases s with | nil => cases hh | cons c r => simp)
  refine R2 ?_;refine A1 rfl (w_ssl_lo rfl O3 zA J4 qz3 qz3) ?_;refine R5 ?_;refine zF rfl call202 (Bp7 _ (by first | exact hs | exact hd1)) (A2 (A0 rfl) B0) ?_;refine zC ?_ ?_
  ·intro h29;have he : l5N s = (0, false) := by (unfold l5N; rw [hbody]; exact D3 h29)
   rw [he];refine R6 ?_;exact zq62
  intro h29;have he : l5N s = if s.head? = some 45 then (-(l1R (s.drop 1)), true) else (l1R s, true) := by (unfold l5N; rw [hbody]; exact C5 (fun e => Bool.noConfusion (e.symm.trans h29)))
  rw [he];refine zC ?_ ?_
  ·intro h30;rw [D3 (AD2 h30)];refine R3 ?_;refine A1 rfl (w_neg rfl zA) ?_;refine R4 ?_;exact zq62
  intro h30;rw [C5 (BK3 h30)];refine R8 ?_;exact zq62
 intro h16;have hh : ¬ s.head? = some 45 := BK3 h16;have hbody : (if s.head? = some 45 then s.drop 1 else s) = s := C5 hh;refine R4 ?_;refine zF rfl call202 (Bp7 _ (by first | exact hs | exact hd1)) (A2 (A0 rfl) B0) ?_;refine zC ?_ ?_
 ·intro h29;have he : l5N s = (0, false) := by (unfold l5N; rw [hbody]; exact D3 h29)
  rw [he];refine R6 ?_;exact zq62
 intro h29;have he : l5N s = if s.head? = some 45 then (-(l1R (s.drop 1)), true) else (l1R s, true) := by (unfold l5N; rw [hbody]; exact C5 (fun e => Bool.noConfusion (e.symm.trans h29)))
 rw [he];refine zC ?_ ?_
 ·intro h30;rw [D3 (AD2 h30)];refine R3 ?_;refine A1 rfl (w_neg rfl zA) ?_;refine R4 ?_;exact zq62
 intro h30;rw [C5 (BK3 h30)];refine R8 ?_;exact zq62
theorem DO2 (o : TOp) (hs : o.size ≤ 1048576) : E1 163 [AV.agg o.cs] (AV.bool (Br1 o)) := by
 have hs' := hs; unfold TOp.size at hs';refine B2 func163 rfl ntmps163 rfl ?_;refine R3 ?_;intro b1;refine R7 ?_;refine zF rfl call116 (AZ5 _ qz8) (A2 (A0 rfl) B0) ?_;refine zC ?_ ?_
 ·intro h6;refine R5 ?_;exact D5 rfl (A8 rfl BM5)
 intro h6;refine zC ?_ ?_
 ·intro h9;have k9 := J3 h9;(try simp only [A7] at k9);refine zC ?_ ?_
  ·intro h9;have k9 := J3 h9;(try simp only [A7] at k9);exact zq176
  intro h9;have k9 := J0 h9;(try simp only [A7] at k9);refine zC ?_ ?_
  ·intro h20;have k20 := J3 h20;(try simp only [A7] at k20);refine zC ?_ ?_
   ·intro h20;have k20 := J3 h20;(try simp only [A7] at k20);refine R4 ?_;exact zq14
   intro h20;have k20 := J0 h20;(try simp only [A7] at k20);exact zq33
  intro h20;have k20 := J0 h20;(try simp only [A7] at k20);refine zC ?_ ?_
  ·intro h20;have k20 := J3 h20;(try simp only [A7] at k20);refine R4 ?_;exact zq14
  intro h20;have k20 := J0 h20;(try simp only [A7] at k20);exact zq33
 intro h9;have k9 := J0 h9;(try simp only [A7] at k9);refine zC ?_ ?_
 ·intro h9;have k9 := J3 h9;(try simp only [A7] at k9);exact zq176
 intro h9;have k9 := J0 h9;(try simp only [A7] at k9);refine zC ?_ ?_
 ·intro h20;have k20 := J3 h20;(try simp only [A7] at k20);refine zC ?_ ?_
  ·intro h20;have k20 := J3 h20;(try simp only [A7] at k20);refine R4 ?_;exact zq14
  intro h20;have k20 := J0 h20;(try simp only [A7] at k20);exact zq33
 intro h20;have k20 := J0 h20;(try simp only [A7] at k20);refine zC ?_ ?_
 ·intro h20;have k20 := J3 h20;(try simp only [A7] at k20);refine R4 ?_;exact zq14
 intro h20;have k20 := J0 h20;(try simp only [A7] at k20);exact zq33
theorem Bp8 (l : List TOp) (hs : C9 TOp.size l ≤ 1048576) : E1 120 [AV.list 4 (l.map TOp.cs)] (AV.bool (Az7 l)) := by
 refine B2 func120 rfl ntmps120 rfl ?_;refine m2 (t := 0) rfl fun hl => ?_;try simp only [A7] at hl
 refine R12 ?_;refine F8 [(0, _), (5, _), (6, _)] _ (fun (i : Nat) => i ≤ l.length ∧ l.all Br1 = (l.drop i).all Br1) (fun i => []) (fun i => [(7, AV.int i)]) (fun i => l.length - i) (0) ?_ (H0 A4) ?_
 ·exact zq8
 intro i hinv;refine zK ?_ ?_
 ·intro h8 k8;have hlt : i < l.length := by omega
  obtain ⟨x, hx⟩ := B3 hlt;have hsx : x.size ≤ 1048576 := L4 (Y4 hx) hs;refine zq0 ?_;intro b4;refine R5 ?_;refine zF rfl call163 (DO2 _ W5) (A2 (A0 rfl) B0) ?_;refine zC ?_ ?_
  ·intro h13;have hno : Az7 l = false := by (unfold Az7; rw [hinv.2, J7 hx, AC0]; simp_all)
   rw [hno];refine R5 ?_;exact D5 rfl (A8 rfl (by first | rfl | exact E5 AV.bool (by unfold Az7; rw [hall]; simp)))
  intro h13;refine R5 ?_;refine G5 i (i + 1) ?_ ?_ (S4 1 A4)
  ·exact ⟨by omega, by rw [hinv.2, J7 hx, AC0]; simp_all⟩
  omega
 intro h8 k8;have hge : l.length ≤ i := by omega
 have hall : l.all Br1 = true := by (rw [hinv.2, n5 hge]; rfl)
 refine R9 ?_;exact D5 rfl (A8 rfl (by first | rfl | exact E5 AV.bool (by unfold Az7; rw [hall]; simp)))
attribute [local irreducible] j0 T3
theorem Bp9 (l : List Str) (hs : ∀ k ∈ l, k.length ≤ 4611686018427387904) : E1 63 [strs l] (AV.bool (Ae3 l)) := by
 refine B2 func63 rfl ntmps63 rfl ?_;refine m2 (t := 0) rfl fun hl => ?_;try simp only [A7] at hl
 refine R12 ?_;refine F8 [(0, _), (5, _), (6, _)] _ (fun (i : Nat) => i ≤ l.length ∧ (l.all r5 && adj Op.bytesLess l) = ((l.drop i).all r5 && adj Op.bytesLess (l.drop (i - 1)))) (fun i => []) (fun i => [(7, AV.int i)]) (fun i => l.length - i) (0) ?_ (H0 A4) ?_
 ·exact zq8
 intro i hinv;refine zK ?_ ?_
 ·intro h8 k8;have hlt : i < l.length := by omega
  obtain ⟨x, hx⟩ := B3 hlt;obtain ⟨y, hy⟩ := B3 (show i - 1 < l.length by omega);have hsx := hs x (C2 hx);refine zq165 ?_;refine AC2 rfl rfl (Z4 rfl rfl rfl) (fun hc => Ac0 rfl F0 K1 (A9 rfl hc) (A9 rfl hc) (by have := AD2 (BI6 hc); omega) qz112) ?_;refine zq133 ?_;refine zC ?_ ?_
  ·intro h27;have hfin : (l.all r5 && adj Op.bytesLess l) = false := by rw [hinv.2, J7 hx, AC0]; cases hg : r5 x with | false => simp | true => (simp only [hg, Bool.not_true, Bool.false_or, D8, H5, q7] at h27; rw [Al5 hx hy qz8 h27.2]; simp)
   refine R5 ?_;exact D5 rfl (A8 rfl qz147)
  intro h27;refine R5 ?_;refine G5 i (i + 1) ?_ ?_ (H0 A4)
  ·exact ⟨by omega, by rw [hinv.2, J7 hx, AC0, Al4 hx hy (fun h0 => by simp_all), show r5 x = true by simp_all]; simp⟩
  omega
 intro h8 k8;have hge : l.length ≤ i := by omega
 refine R9 ?_;exact D5 rfl (A8 rfl qz147)
theorem Cg8 (l : List Str) (hs : ∀ k ∈ l, k.length ≤ 4611686018427387904) : E1 41 [strs l] (AV.bool (Ae3 l)) := by
  rw [← Cy1];refine B2 func41 rfl ntmps41 rfl ?_;refine R11 ?_;refine J6 rfl (fun hc => zG rfl call87 (Ad0 l hs) zS) ?_;refine R4 ?_;exact D5 rfl (A8 rfl (by first | rfl | exact E5 AV.bool (by unfold CE2; simp only [A7])))
theorem Am4 (l : List Str) (k : Str) : E1 172 [strs l, AV.str k] (AV.int (AC7 l k)) := by
 refine B2 func172 rfl ntmps172 rfl ?_;refine m2 (t := 0) rfl fun hl => ?_;try simp only [A7] at hl
 refine R10 ?_;refine F8 [(0, _), (1, _), (4, _)] _ (fun (i : Nat) => i ≤ AC7 l k) (fun i => []) (fun i => [(5, AV.int i)]) (fun i => l.length - i) (0) ?_ (H0 A4) ?_
 ·exact E2 _
 intro i hinv;refine R10 ?_;refine J6 rfl (fun hc => Ac0 rfl F0 K1 (A9 rfl hc) (A9 rfl hc) qz8 (getD_row (by have h9 := AD2 hc; simp only [A7] at h9; omega))) ?_;refine R2 ?_;refine J6 rfl (fun hc => w_sleq rfl (A9 rfl hc) (A9 rfl hc)) ?_;refine zC ?_ ?_
 ·intro h17;have h17m : (decide ((i : Int) < (l.length : Int)) && leS (l.getD i []) k) = true := by (have h9 := h17; rw [A7] at h9; exact h9)
  have hlt := (Cc1 hinv h17m).1;refine R7 ?_;refine Ap7 ?_;refine G5 i (i + 1) ?_ ?_ (H0 A4)
  ·exact (Cc1 hinv h17m).2
  omega
 intro h17;have h17m : (decide ((i : Int) < (l.length : Int)) && leS (l.getD i []) k) = false := by (have h9 := h17; rw [A7] at h9; exact h9)
 rw [DY1 hinv h17m];refine R7 ?_;exact zq5
end Go.PQ
namespace Go.PQ
open Go.Proofs
open Go Go.AV Go.M
attribute [local irreducible] OpW OpA OpS AWP K6 L8 K8 OpE K7 I7 L1 Le Ev G4 M7
namespace tw8n1
def tw8x0 := @CK3
end tw8n1
open tw8n1 in
theorem DO3 (l : List Int) (n : Int) (hl : l.length ≤ 4194303) : E1 171 [ints l, AV.int n] (ints (AM9 l n)) := DG5
end Go.PQ
namespace Go.PQ
open Go.Proofs Go.Proofs.Tryz
open Go Go.AV Go.M
attribute [local irreducible] OpW OpA OpS AWP K6 L8 K8 OpE K7 I7 L1 Le Ev G4 M7 j0
theorem Bj2 (r : List Str) (w : List A5) (hr : r.length ≤ 400000) (hw : w.length ≤ 400000) : E1 127 [strs r, AV.list 3 (w.map A5.cs)] (strs (Ap2 (r ++ T8 w))) := by
  rw [CY7];exact N1 (Cr5 r w hr hw) fun v _ => K3 (X9.2 rfl) F6
theorem Bj3 (l ks : List Str) (hk : ks.length ≤ 1000000) : E1 126 [strs l, strs ks] (ints (BA3 l ks)) := by
 refine B2 func126 rfl ntmps126 rfl ?_;refine R2 ?_;refine zq55 ?_;refine R3 ?_;refine zq55 ?_;refine R9 ?_;refine F8 [(0, _), (4, _), (8, _), (9, _)] _ (fun (i : Nat) => i ≤ ks.length) (fun i => []) (fun i => [(5, ints (BA3 l (ks.take i))), (10, AV.int i)]) (fun i => ks.length - i) (0) ?_ (H0 A4) ?_
 ·exact E2 _
 intro i hinv;refine zK ?_ ?_
 ·intro h11 k11;have hlt : i < ks.length := by omega
  obtain ⟨x, hx⟩ := B3 hlt;have hle := CK4 l (ks.take i);rw [H4] at hle;refine zq83 ?_;refine R7 ?_;refine zF rfl call172 (Am4 _ _) F4 ?_;refine zF rfl call171 (DO3 _ _ qz8) (A2 (A0 rfl) (A2 (A0 rfl) B0)) ?_;refine R6 ?_;refine G5 i (i + 1) ?_ ?_ (H0 ⟨(E5 (fun z => some (ints z)) (DB3 hx).symm), rfl, rfl, rfl, rfl, rfl, trivial⟩)
  ·exact qz8
  omega
 intro h11 k11;have hge : ks.length ≤ i := by omega
 rw [T4 hge];refine R7 ?_;exact zq5
end Go.PQ
namespace Go.PQ
open Go.Proofs Go.Proofs.Tryz
open Go Go.AV Go.M
attribute [local irreducible] OpW OpA OpS AWP K6 L8 K8 OpE K7 I7 L1 Le Ev G4 M7 Int.tmod IntKind.wrap T3
theorem CK7 (b : Nat) (code : List Int) (hcode : AB3 code) (c : Z3) (l : List Str) (hl : 1 ≤ l.length ∧ l.length ≤ 1000) (hp : c.p ≤ 7000000) : L7 180 [AV.ptr b 0, strs l] [.box b 86 (Y0 code c)] (fun x : Z3 × Str => x.1.p ≤ c.p + 2 ∧ x.2 ∈ l) (fun x => [.box b 86 (Y0 code x.1)]) (fun x => AV.str x.2) := by
  obtain ⟨hl1, hl2⟩ := hl;refine C6 func180 rfl ntmps180 rfl ?_;refine zq149 ?_;refine R7 ?_;refine zq120 ?_;intro x9 ok9;simp only [A7] at ok9;obtain ⟨y, hy⟩ := B3 (show x9.2.toNat < l.length by omega);refine A1 rfl (C8 rfl F0 K1 zA zA hy qz8) ?_;refine R4 ?_
  (refine I5 [0] ((_, _)) ?_ rfl n9 M9; exact ⟨ok9.1, C2 hy⟩)
theorem By4 (b : Nat) (code : List Int) (hcode : AB3 code) (c : Z3) (hp : c.p ≤ 6000000) : L7 205 [AV.ptr b 0] [.box b 86 (Y0 code c)] (fun x : Z3 × Str => x.1.p ≤ c.p + 2 ∧ x.2 ∈ AD0) (fun x => [.box b 86 (Y0 code x.1)]) (fun x => AV.str x.2) := by
  refine C6 func205 rfl ntmps205 rfl ?_;refine zq149 ?_;refine R4 ?_;refine A1 rfl (At3 rfl F0 K1 zeroValue9 rfl rfl rfl rfl (D7 (J1 (l := [97]) rfl) (n6 _) (D7 (J1 (l := [98]) rfl) (n6 _) (D7 (J1 (l := [99]) rfl) (n6 _) (D7 (J1 (l := [109]) rfl) (n6 _) (D7 (J1 (l := [110]) rfl) (n6 _) (D7 (J1 (l := [122]) rfl) (n6 _) (D7 (J1 (l := [114, 47, 49]) rfl) (n6 _) (D7 (J1 (l := [105, 47, 120, 47, 49]) rfl) (n6 _) V1)))))))) rfl rfl) ?_;refine zI [0] rfl call180 (CK7 _ _ hcode _ AD0 D4 qz8) (A2 (A0 rfl) (A2 (A0 rfl) B0)) rfl ?_;intro x5 ok5;refine R3 ?_
  (refine I5 [0] ((_, _)) ?_ rfl n9 M9; exact ok5)
theorem By5 (b : Nat) (code : List Int) (hcode : AB3 code) (c : Z3) (hp : c.p ≤ 6000000) : L7 140 [AV.ptr b 0] [.box b 86 (Y0 code c)] (fun x : Z3 × Str => x.1.p ≤ c.p + 2 ∧ x.2 ∈ valD) (fun x => [.box b 86 (Y0 code x.1)]) (fun x => AV.str x.2) := by
  refine C6 func140 rfl ntmps140 rfl ?_;refine R2 ?_;refine zq36 ?_;refine zI [0] rfl call180 (CK7 _ _ hcode _ valD D4 qz8) (A2 (A0 rfl) (A2 (A0 rfl) B0)) rfl ?_;intro x5 ok5;refine R3 ?_
  (refine I5 [0] ((_, _)) ?_ rfl n9 M9; exact ok5)
end Go.PQ
namespace Go.M
open Go.AV
def BC6 (l : List K4) (t : Int) : Bool := Aa1 t 1 l && decide ((l.length : Int) ≤ 60)
theorem rep_eq (r : F7) (t : Int) : (!(!BC6 r.Log t || !within r.Sure 0 r.Log.length)) = AF1 r t := by
  unfold BC6 AF1
  cases Aa1 t 1 r.Log <;> cases decide ((r.Log.length : Int) ≤ 60) <;> cases within r.Sure 0 r.Log.length <;> rfl
theorem log_stop {t p : Int} {l : List K4} {i : Nat} {e : K4} (hx : l[i]? = some e) (h : e.Term < p ∨ t < e.Term ∨ T2 e.Rec = false) : Aa1 t p (l.drop i) = false := by
  rw [BJ9 hx];unfold within
  rcases h with h | h | h
  · rw [AP9 (show ¬ p ≤ e.Term by omega)]; rfl
  · rw [AP9 (show ¬ e.Term ≤ t by omega)]; simp
  · rw [h]; simp
theorem log_next {t p : Int} {l : List K4} {i : Nat} {e : K4} (hx : l[i]? = some e) (h : p ≤ e.Term ∧ e.Term ≤ t ∧ T2 e.Rec = true) : Aa1 t p (l.drop i) = Aa1 t e.Term (l.drop (i + 1)) := by
  rw [BJ9 hx];unfold within
  rw [q8 h.1, q8 h.2.1, h.2.2]; rfl
theorem Ct8 (g : D0) (h : (((AS7 g.Reps.length && within g.Term 0 200) && (g.Lead == -1 || (Ap3 g g.Lead && (P0 g g.Lead).Up)))) = true) : (!(g.Reps.any fun r => !AF1 r g.Term)) = j5 g := by
  unfold j5;rw [h, Bool.true_and, List.not_any_eq_all_not];congr 1; funext r; rw [Bool.not_not]
def OpD (o : TOp) : Prop := Au2 o = true ∧ o.Key ∈ AD0 ∧ o.size ≤ 64
theorem valD_gv {v : Str} (h : v ∈ valD) : AO9 v = true ∧ v.length ≤ 10 := by
  have : ∀ v ∈ valD, AO9 v = true ∧ v.length ≤ 10 := by decide
  exact this v h
theorem Ai6 {K : Int} {k v : Str} (h1 : 1 ≤ K ∧ K ≤ 7) (hv : Ai9 K = true) (hk : k ∈ AD0) (h : v ∈ valD) : OpD ⟨K, k, v, 0⟩ := by
  obtain ⟨k1, k2⟩ := AZ3 hk;obtain ⟨v1, v2⟩ := valD_gv h;refine ⟨?_, hk, by unfold TOp.size; dsimp only; omega⟩;unfold Au2 within
  dsimp only;rw [q8 h1.1, q8 h1.2, k1, v1, hv]
  cases Aq9 K <;> rfl
theorem Am5 {K n : Int} {k : Str} (h1 : 1 ≤ K ∧ K ≤ 7) (hb : Aq9 K = true) (hk : k ∈ AD0) (h : -9999 ≤ n ∧ n ≤ 9999) : OpD ⟨K, k, [], n⟩ := by
  obtain ⟨k1, k2⟩ := AZ3 hk;refine ⟨?_, hk, by unfold TOp.size; simp only [Q8]; omega⟩;unfold Au2 within
  dsimp only;rw [q8 h1.1, q8 h1.2, k1, hb, q8 h.1, q8 h.2]
  cases Ai9 K <;> rfl
theorem Aq5 {K : Int} {k : Str} (h1 : 1 ≤ K ∧ K ≤ 7) (hk : k ∈ AD0) : OpD ⟨K, k, [], 0⟩ := by
  obtain ⟨k1, k2⟩ := AZ3 hk;refine ⟨?_, hk, by unfold TOp.size; simp only [Q8]; omega⟩;unfold Au2 within
  dsimp only;rw [q8 h1.1, q8 h1.2, k1]
  cases Ai9 K <;> cases Aq9 K <;> rfl
theorem DY7 {l : List TOp} (hl : l.length ≤ 8) (h : ∀ o ∈ l, OpD o) : AB9 l = true ∧ ∀ o ∈ l, o.Key ∈ AD0 := by
  refine ⟨?_, fun o ho => (h o ho).2.1⟩;unfold AB9;rw [q8 qz8, Bool.true_and, q7, List.any_eq_false];intro o ho;rw [(h o ho).1]; decide
theorem got_ne (a b : F9) : (!(a.Key == b.Key && (a.Val == b.Val && (a.There == b.There && true)))) = !decide (a = b) := by
  congr 1
  cases a; cases b
  rw [AW7];simp only [D8, i8, H5, F9.mk.injEq, and_true]
theorem DY8 (s : Str) : -9223372036854775808 ≤ AU0 s ∧ AU0 s ≤ 9223372036854775807 := by
  unfold AU0;split
  · rename_i h; exact Lib.atoiAll_bounds h
  · unfold Lib.atoiSat; split <;> omega
  · omega
def AA7 (a b : Int) : Int := if b < a then a else b
def Bi1 (s : E9) (n : Int) : Int × Bool := if (w7 s && j6 n) = true then (if AA7 s.Floor n + 1 ≤ 100000 then (AA7 s.Floor n + 1, true) else (0, false)) else (0, false)
theorem CK8 {n : Int} : j6 n = true ↔ 0 ≤ n ∧ n ≤ 100000 := by unfold j6 within; simp only [D8, H5]
def AB6 (c : U4) : Bool := within c.Off (-5) 5
def AK9 (c : U4) (now : Int) : Az0 := ⟨now + c.Off - 5, now + c.Off + 5⟩
theorem Cg9 {c : U4} : AB6 c = true ↔ -5 ≤ c.Off ∧ c.Off ≤ 5 := by unfold AB6 within; simp only [D8, H5]
def An5 (m : Int) (l : List Int) : Int := l.foldl AA7 m
theorem By6 {m : Int} {l : List Int} {i : Nat} {x : Int} (h : l[i]? = some x) : An5 m (l.take (i + 1)) = AA7 (An5 m (l.take i)) x := by
  unfold An5;rw [W1, h, List.foldl_append]; rfl
theorem Cc3 {l : List K4} {i : Nat} {e : K4} (h : l[i]? = some e) : AK8 (l.take (i + 1)) = AK8 (l.take i) ++ [e.Rec] := by
  unfold AK8; rw [W1, h, X8]; rfl
theorem BS7 {l : List F7} {i : Nat} {r b : F7} (h : l[i]? = some r) : (l.take (i + 1)).foldl (fun b r => if b.Sure < r.Sure then r else b) b = (if ((l.take i).foldl (fun b r => if b.Sure < r.Sure then r else b) b).Sure < r.Sure then r else (l.take i).foldl (fun b r => if b.Sure < r.Sure then r else b) b) := by
  rw [W1, h, List.foldl_append]; rfl
structure LogK (l : List K4) : Prop where
  len : l.length ≤ 60
  recs : ∀ e ∈ l, e.Rec.size ≤ 1100
theorem CU4 {r : F7} {t : Int} (h : GR r t) : LogK r.Log := ⟨h.len, fun e he => L4 (AX9 (h.ents e he).2.2) D4⟩
theorem BZ6 {α : Type} {l : List α} {i : Nat} {x : α} (h : l[i]? = some x) : l.set i x = l := by
  apply List.ext_getElem?
  intro j;by_cases e : i = j
  · subst e; rw [AZ9 (G2.1 h).1, h]
  · rw [Aj7 e]
end Go.M
namespace Go.PQ
open Go.Proofs Go.Proofs.Tryz
open Go Go.AV Go.M
attribute [local irreducible] OpW OpA OpS AWP K6 L8 K8 OpE K7 I7 L1 Le Ev G4 M7 j0 Int.tmod Int.tdiv IntKind.wrap T3
theorem DB9 (g : D0) (r : Int) (hl : g.Reps.length ≤ 1048576) : E1 89 [AV.agg g.cs, AV.int r] (AV.bool (Ap3 g r)) := by
  refine B2 func89 rfl ntmps89 rfl ?_;refine R3 ?_;intro b2;refine R9 ?_;refine zF rfl call45 (Z2 _ _ _) Aw2 ?_;refine R3 ?_;exact D5 rfl (A8 rfl (by exact E5 AV.bool (by unfold Ap3; rw [A7])))
theorem Ct9 (n : Int) : E1 88 [AV.int n] (AV.bool (AS7 n)) := by
  refine B2 func88 rfl ntmps88 rfl ?_;refine R15 ?_;exact zq10
theorem DO4 (l : List K4) (t : Int) (hll : l.length ≤ 1048576) (hs : ∀ e ∈ l, e.size ≤ 1048576) : E1 92 [AV.list 8 (l.map K4.cs), AV.int t] (AV.bool (BC6 l t)) := by
 refine B2 func92 rfl ntmps92 rfl ?_;refine R12 ?_;refine J5 [(0, _), (1, _), (7, _), (8, _)] _ (fun (i : Nat) (p : Int) => (i ≤ l.length ∧ 1 ≤ p) ∧ ((i = 0 ∧ p = 1) ∨ (0 < i ∧ ∃ y, l[i - 1]? = some y ∧ y.Term = p)) ∧ Aa1 t 1 l = Aa1 t p (l.drop i)) (fun i p => []) (fun i p => [(9, AV.int i)]) (fun i p => l.length - i) (0) (1) ?_ (H0 A4) ?_
 ·exact ⟨⟨E2 _, by decide⟩, .inl ⟨rfl, rfl⟩, rfl⟩
 intro i p hinv;refine zK ?_ ?_
 ·intro h10 k10;have hlt : i < l.length := Ab9;obtain ⟨x, hx⟩ := B3 hlt;have hsx : x.Rec.size ≤ 1048576 := hs x (C2 hx);obtain ⟨y, hy⟩ := B3 (show i - 1 < l.length by omega);have hp : (i = 0 ∧ p = 1) ∨ (0 < i ∧ y.Term = p) := (by rcases hinv.2.1 with h9 | ⟨h9, z, hz, h8⟩; exact .inl h9; rw [hy] at hz; injection hz with hz; subst hz; exact .inr ⟨h9, h8⟩);refine zq23 ?_;intro b6;refine R8 ?_;refine B7 rfl rfl (zG rfl call45 (Z2 _ _ _) Aw2) ?_;refine R3 ?_;refine S5 rfl (i5 rfl rfl rfl) (fun hc => Bz9 _ 0 rfl (A9 rfl hc) rfl Ad3 AJ7 rfl rfl) ?_;refine S5 rfl (i5 rfl rfl rfl) (fun hc => zG rfl call148 (Cq1 _ W5) (A2 (A9 rfl hc) B0)) ?_;refine R11 ?_;refine S5 rfl (Z4 rfl rfl rfl) (fun hc => C8 rfl P8 X2 (A9 rfl hc) (A9 rfl hc) hy (by have h9 := AD2 (BI6 hc); omega)) ?_;refine zC ?_ ?_
  ·intro h39;have he : BC6 l t = false := (by unfold BC6; rw [hinv.2.2, log_stop hx (by by_cases hgr : T2 x.Rec = false; exact .inr (.inr hgr); have h9 : x.Term < p ∨ t < x.Term := (by simp only [within, AB1, q7, Bool.and_eq_false_iff, AH1, D8, H5] at h39; rcases hp with ⟨h0, h1⟩ | ⟨h0, h1⟩ <;> rcases h39 with (h9 | h9) | h9 <;> first | exact absurd h9 hgr | omega); exact h9.elim .inl fun h8 => .inr (.inl h8))]; rfl);rw [he];refine R5 ?_;exact D5 rfl (A8 rfl (by first | rfl | (rw [A7])))
  intro h39;have hgo : p ≤ x.Term ∧ x.Term ≤ t ∧ T2 x.Rec = true := (by simp only [within, AE4, AJ5, D8, H5, Bool.and_eq_false_iff, AH1] at h39; obtain ⟨⟨⟨a1, a2⟩, a3⟩, a4⟩ := h39; refine ⟨?_, a2, a3⟩; rcases hp with ⟨h0, h1⟩ | ⟨h0, h1⟩ <;> omega);refine R5 ?_;refine G0 i p (i + 1) (x.Term) ?_ ?_ (S4 1 A4)
  ·exact ⟨⟨by omega, by omega⟩, .inr ⟨by omega, x, hx, rfl⟩, hinv.2.2.trans (log_next hx hgo)⟩
  omega
 intro h10 k10;have hge : l.length ≤ i := Ab9;have he : BC6 l t = decide ((l.length : Int) ≤ 60) := (by unfold BC6; rw [hinv.2.2, n5 hge]; rfl);rw [he];refine R9 ?_;exact D5 rfl (A8 rfl (by first | rfl | (rw [A7])))
theorem CK9 (g : D0) (r : F7) (h : r.size ≤ 1048576) : E1 91 [AV.agg r.cs, AV.eptr g.cs] (AV.bool (!AF1 r g.Term)) := by
  refine B2 func91 rfl ntmps91 rfl ?_;refine R3 ?_;intro b2;refine R8 ?_;refine zF rfl call92 (DO4 r.Log g.Term (L4 (O2 (f := K4.size)) h) (fun e he => by obtain ⟨i, hi⟩ := i7 he; exact L4 (Y4 (f := K4.size) hi) h)) F4 ?_;refine R7 ?_;refine T6 rfl (fun hc => zG rfl call45 (Z2 _ _ _) zS) ?_;refine R5 ?_;exact D5 rfl (A8 rfl (by exact E5 AV.bool (by rw [← rep_eq, Bool.not_not, A7])))
theorem CL0 (g : D0) (hs : g.size ≤ 1048576) : E1 42 [AV.agg g.cs] (AV.bool (j5 g)) := by
 have hrs : C9 F7.size g.Reps ≤ 1048576 := hs;have hgl : g.Reps.length ≤ 1048576 := L4 O2 hrs;have hm : ∀ r ∈ g.Reps, r.size ≤ 1048576 := fun r hr => by obtain ⟨i, hi⟩ := i7 hr; exact L4 (Y4 (f := F7.size) hi) hrs
 refine B2 func42 rfl ntmps42 rfl ?_;refine R3 ?_;intro b1;refine R8 ?_;refine zF rfl call88 (Ct9 _) I4 ?_;refine R4 ?_;refine T6 rfl (fun hc => zG rfl call45 (Z2 _ _ _) (A2 (A9 rfl hc) AP3)) ?_;refine R10 ?_;refine AC2 rfl rfl (Z4 rfl rfl rfl) (fun hc => zG rfl call89 (DB9 _ _ AK2) (A2 (A9 rfl hc) (A2 (A9 rfl hc) B0))) ?_;refine R5 ?_;refine AC2 rfl rfl (Z4 rfl rfl rfl) (fun hc => C8 rfl I0 L0 (A9 rfl hc) (A9 rfl hc) (AC3 (Al8.1 (BI6 hc))) (by have h9 := (Al8.1 (BI6 hc)).1; omega)) ?_;refine zC ?_ ?_
 ·intro h34;have he : j5 g = false := (by unfold j5; rw [A7] at h34; cases h1 : AS7 g.Reps.length <;> cases h2 : within g.Term 0 200 <;> cases h3 : Ap3 g g.Lead <;> cases h4 : (P0 g g.Lead).Up <;> cases h5 : (g.Lead == -1) <;> simp_all);rw [he];refine R5 ?_;exact D5 rfl (A8 rfl (by first | rfl | exact E5 AV.bool (Ct8 g hok)))
 intro h34;have hok : (((AS7 g.Reps.length && within g.Term 0 200) && (g.Lead == -1 || (Ap3 g g.Lead && (P0 g g.Lead).Up)))) = true := (by rw [A7] at h34; cases h1 : AS7 g.Reps.length <;> cases h2 : within g.Term 0 200 <;> cases h3 : Ap3 g g.Lead <;> cases h4 : (P0 g g.Lead).Up <;> cases h5 : (g.Lead == -1) <;> simp_all);refine R5 ?_;refine A1 rfl (BR2 rfl rfl I4) ?_;refine A1 rfl (m5 rfl call90 rfl (BN9 _ _ _ Aw1) (U2 _) (O6 (evb (A0 rfl)) (O6 (AY7 (At4 0 (A0 rfl) rfl) (Ak5 call91 (fun r (h : r.size ≤ 1048576) => CK9 _ r h))) o0))) ?_;refine R4 ?_;exact D5 rfl (A8 rfl (by first | rfl | exact E5 AV.bool (Ct8 g hok)))
end Go.PQ
namespace Go.PQ
open Go.Proofs Go.Proofs.Tryz
open Go Go.AV Go.M
attribute [local irreducible] OpW OpA OpS AWP K6 L8 K8 OpE K7 I7 L1 Le Ev G4 M7 Int.tmod Int.tdiv IntKind.wrap T3
theorem DO5 (b : Nat) (code : List Int) (hcode : AB3 code) (c : Z3) (hp : c.p ≤ 5000000) : L7 179 [AV.ptr b 0] [.box b 86 (Y0 code c)] (fun x : Z3 × TOp => x.1.p ≤ c.p + 10 ∧ OpD x.2) (fun x => [.box b 86 (Y0 code x.1)]) (fun x => AV.agg x.2.cs) := by
 refine C6 func179 rfl ntmps179 rfl ?_;refine R3 ?_;intro b2;refine R4 ?_;refine zq21 ?_;intro x5 ok5;refine R2 ?_;refine zI [0] rfl call205 (By4 _ _ hcode _ qz8) (A2 (A0 rfl) B0) rfl ?_;intro x8 ok8;refine R2 ?_;intro b3;refine zC ?_ ?_
 ·intro h12;have k12 := J3 h12;(try simp only [A7] at k12);refine zC ?_ ?_
  ·intro h12;have k12 := J3 h12;(try simp only [A7] at k12);refine R2 ?_;refine zI [1] rfl call140 (By5 _ _ hcode _ qz8) (A2 (A0 rfl) B0) rfl ?_;intro x16 ok16;refine R9 ?_
   (refine I5 [0] ((x16.1, ⟨1 + x5.2, x8.2, x16.2, 0⟩)) ?_ rfl n9 (N4 rfl (F5 (ys := _) 2 rfl rfl AG0 Y7 rfl)); (dsimp only; first | exact ⟨by omega, Ai6 ⟨by omega, by omega⟩ BT7 ok8.2 ok16.2⟩ | exact ⟨by omega, Am5 ⟨by omega, by omega⟩ BT6 ok8.2 BT9⟩ | exact ⟨by omega, Aq5 ⟨by omega, by omega⟩ ok8.2⟩))
  intro h12;have k12 := J0 h12;(try simp only [A7] at k12);refine zC ?_ ?_
  ·intro h18;have k18 := J3 h18;(try simp only [A7] at k18);refine zC ?_ ?_
   ·intro h18;have k18 := J3 h18;(try simp only [A7] at k18);refine zq26 ?_;intro x23 ok23;refine R9 ?_
    (refine I5 [0] ((x23.1, ⟨1 + x5.2, x8.2, [], x23.2⟩)) ?_ rfl n9 (N4 rfl (F5 (ys := _) 2 rfl rfl AG0 Y7 rfl)); (dsimp only; first | exact ⟨by omega, Ai6 ⟨by omega, by omega⟩ BT7 ok8.2 ok16.2⟩ | exact ⟨by omega, Am5 ⟨by omega, by omega⟩ BT6 ok8.2 BT9⟩ | exact ⟨by omega, Aq5 ⟨by omega, by omega⟩ ok8.2⟩))
   intro h18;have k18 := J0 h18;(try simp only [A7] at k18);refine R7 ?_
   (refine I5 [1] ((x8.1, ⟨1 + x5.2, x8.2, [], 0⟩)) ?_ rfl n9 (N4 rfl (F5 (ys := _) 2 rfl rfl AG0 Y7 rfl)); (dsimp only; first | exact ⟨by omega, Ai6 ⟨by omega, by omega⟩ BT7 ok8.2 ok16.2⟩ | exact ⟨by omega, Am5 ⟨by omega, by omega⟩ BT6 ok8.2 BT9⟩ | exact ⟨by omega, Aq5 ⟨by omega, by omega⟩ ok8.2⟩))
  intro h18;have k18 := J0 h18;(try simp only [A7] at k18);refine zC ?_ ?_
  ·intro h18;have k18 := J3 h18;(try simp only [A7] at k18);refine zq26 ?_;intro x23 ok23;refine R9 ?_
   (refine I5 [0] ((x23.1, ⟨1 + x5.2, x8.2, [], x23.2⟩)) ?_ rfl n9 (N4 rfl (F5 (ys := _) 2 rfl rfl AG0 Y7 rfl)); (dsimp only; first | exact ⟨by omega, Ai6 ⟨by omega, by omega⟩ BT7 ok8.2 ok16.2⟩ | exact ⟨by omega, Am5 ⟨by omega, by omega⟩ BT6 ok8.2 BT9⟩ | exact ⟨by omega, Aq5 ⟨by omega, by omega⟩ ok8.2⟩))
  intro h18;have k18 := J0 h18;(try simp only [A7] at k18);refine R7 ?_
  (refine I5 [1] ((x8.1, ⟨1 + x5.2, x8.2, [], 0⟩)) ?_ rfl n9 (N4 rfl (F5 (ys := _) 2 rfl rfl AG0 Y7 rfl)); (dsimp only; first | exact ⟨by omega, Ai6 ⟨by omega, by omega⟩ BT7 ok8.2 ok16.2⟩ | exact ⟨by omega, Am5 ⟨by omega, by omega⟩ BT6 ok8.2 BT9⟩ | exact ⟨by omega, Aq5 ⟨by omega, by omega⟩ ok8.2⟩))
 intro h12;have k12 := J0 h12;(try simp only [A7] at k12);refine zC ?_ ?_
 ·intro h12;have k12 := J3 h12;(try simp only [A7] at k12);refine R2 ?_;refine zI [1] rfl call140 (By5 _ _ hcode _ qz8) (A2 (A0 rfl) B0) rfl ?_;intro x16 ok16;refine R9 ?_
  (refine I5 [0] ((x16.1, ⟨1 + x5.2, x8.2, x16.2, 0⟩)) ?_ rfl n9 (N4 rfl (F5 (ys := _) 2 rfl rfl AG0 Y7 rfl)); (dsimp only; first | exact ⟨by omega, Ai6 ⟨by omega, by omega⟩ BT7 ok8.2 ok16.2⟩ | exact ⟨by omega, Am5 ⟨by omega, by omega⟩ BT6 ok8.2 BT9⟩ | exact ⟨by omega, Aq5 ⟨by omega, by omega⟩ ok8.2⟩))
 intro h12;have k12 := J0 h12;(try simp only [A7] at k12);refine zC ?_ ?_
 ·intro h18;have k18 := J3 h18;(try simp only [A7] at k18);refine zC ?_ ?_
  ·intro h18;have k18 := J3 h18;(try simp only [A7] at k18);refine zq26 ?_;intro x23 ok23;refine R9 ?_
   (refine I5 [0] ((x23.1, ⟨1 + x5.2, x8.2, [], x23.2⟩)) ?_ rfl n9 (N4 rfl (F5 (ys := _) 2 rfl rfl AG0 Y7 rfl)); (dsimp only; first | exact ⟨by omega, Ai6 ⟨by omega, by omega⟩ BT7 ok8.2 ok16.2⟩ | exact ⟨by omega, Am5 ⟨by omega, by omega⟩ BT6 ok8.2 BT9⟩ | exact ⟨by omega, Aq5 ⟨by omega, by omega⟩ ok8.2⟩))
  intro h18;have k18 := J0 h18;(try simp only [A7] at k18);refine R7 ?_
  (refine I5 [1] ((x8.1, ⟨1 + x5.2, x8.2, [], 0⟩)) ?_ rfl n9 (N4 rfl (F5 (ys := _) 2 rfl rfl AG0 Y7 rfl)); (dsimp only; first | exact ⟨by omega, Ai6 ⟨by omega, by omega⟩ BT7 ok8.2 ok16.2⟩ | exact ⟨by omega, Am5 ⟨by omega, by omega⟩ BT6 ok8.2 BT9⟩ | exact ⟨by omega, Aq5 ⟨by omega, by omega⟩ ok8.2⟩))
 intro h18;have k18 := J0 h18;(try simp only [A7] at k18);refine zC ?_ ?_
 ·intro h18;have k18 := J3 h18;(try simp only [A7] at k18);refine zq26 ?_;intro x23 ok23;refine R9 ?_
  (refine I5 [0] ((x23.1, ⟨1 + x5.2, x8.2, [], x23.2⟩)) ?_ rfl n9 (N4 rfl (F5 (ys := _) 2 rfl rfl AG0 Y7 rfl)); (dsimp only; first | exact ⟨by omega, Ai6 ⟨by omega, by omega⟩ BT7 ok8.2 ok16.2⟩ | exact ⟨by omega, Am5 ⟨by omega, by omega⟩ BT6 ok8.2 BT9⟩ | exact ⟨by omega, Aq5 ⟨by omega, by omega⟩ ok8.2⟩))
 intro h18;have k18 := J0 h18;(try simp only [A7] at k18);refine R7 ?_
 (refine I5 [1] ((x8.1, ⟨1 + x5.2, x8.2, [], 0⟩)) ?_ rfl n9 (N4 rfl (F5 (ys := _) 2 rfl rfl AG0 Y7 rfl)); (dsimp only; first | exact ⟨by omega, Ai6 ⟨by omega, by omega⟩ BT7 ok8.2 ok16.2⟩ | exact ⟨by omega, Am5 ⟨by omega, by omega⟩ BT6 ok8.2 BT9⟩ | exact ⟨by omega, Aq5 ⟨by omega, by omega⟩ ok8.2⟩))
theorem By7 (b : Nat) (code : List Int) (hcode : AB3 code) (c : Z3) (hp : c.p ≤ 4000000) : L7 138 [AV.ptr b 0] [.box b 86 (Y0 code c)] (fun x : Z3 × List TOp × Value => x.1.p ≤ c.p + 100 ∧ (1 ≤ x.2.1.length ∧ x.2.1.length ≤ 4) ∧ ∀ o ∈ x.2.1, OpD o) (fun x => [.box b 86 (Y0 code x.1), .arr x.2.2 112 4 (x.2.1.map TOp.cs)]) (fun x => AV.is x.2.2) := by
 refine C6 func138 rfl ntmps138 rfl ?_;refine zq104 ?_;refine V0 112 4 rfl rfl rfl rfl I2 ?_;intro v3;refine R5 ?_;refine zq21 ?_;intro x7 ok7;obtain ⟨n0, hn0⟩ : ∃ n0 : Nat, x7.2 = n0 := ⟨x7.2.toNat, by omega⟩;refine R4 ?_;refine zL [0, 0] ?_;refine AU2 [(0, _), (2, _)] _ (fun (n : Nat) (cc : Z3) (l : List TOp) (v : Value) => n + l.length = 1 + n0 ∧ cc.p ≤ c.p + 2 + 14 * l.length ∧ ∀ o ∈ l, OpD o) (fun n cc l v => [.box b 86 (Y0 code cc), .arr v 112 4 (l.map TOp.cs)]) (fun n cc l v => [(3, AV.is v), (4, AV.int n)]) (fun n cc l v => n) (1 + n0) (x7.1) ([]) (v3) ?_ (K5 B8 ⟨rfl, E5 (fun z => some (AV.int z)) qz8, rfl, rfl, trivial⟩) ?_
 ·exact ⟨rfl, by simp; omega, fun o h => by cases h⟩
 intro n cc l v hinv;refine zK ?_ ?_
 ·intro h10 k10;have hll : l.length ≤ 4 := by omega
  refine R6 ?_;refine zI [0] rfl call179 (DO5 _ _ hcode _ qz8) (A2 (A0 rfl) B0) rfl ?_;intro x14 ok14;refine R1 ?_;intro b5;refine R20 ?_;refine Al3 rfl rfl (X0 rfl rfl rfl) ?_ ?_
  ·intro gh30;refine zI [1] rfl call136 (Ay1 _ _ hcode _ _ qz8 qz8) (A2 (A9 rfl gh30) (A2 J4 B0)) rfl ?_;intro x30 ok30;refine zC ?_ ?_
   ·intro h32;refine zL [1, 1, 0] ?_;refine zq76 ?_;intro x36 ok36;refine R9 ?_;refine G1 (by' := 48) 1 rfl rfl rfl rfl U6 type112 rfl rfl rfl rfl rfl rfl zA zA rfl qz3 ?_;intro v42_1;refine R7 ?_;refine AB7 n cc l v (n - 1) (x36.1) (l ++ [⟨4, x14.2.Key, [], 1 + x36.2⟩]) (v42_1) ?_ ?_ (Le.trans (B4 [0, 1, 0] rfl) (C7 1 qz84 ⟨rfl, E5 (fun z => some (AV.int z)) qz8, rfl, rfl, trivial⟩))
    ·exact ⟨by rw [G3, I9, Q8]; omega, by rw [G3, I9, Q8]; omega, fun o ho => (u6.1 ho).elim (hinv.2.2 o) fun e => by (rw [X9.1 e]; exact Am5 ⟨by decide, by decide⟩ rfl ok14.2.2.1 ⟨by omega, by omega⟩)⟩
    omega
   intro h32;refine R5 ?_;refine G1 (by' := 48) 2 rfl rfl rfl rfl U6 type112 rfl rfl rfl rfl rfl rfl zA zA rfl qz3 ?_;intro v42_2;refine R7 ?_;refine AB7 n cc l v (n - 1) (x30.1) (l ++ [x14.2]) (v42_2) ?_ ?_ (Le.trans (B4 [1, 0, 0] rfl) (C7 1 qz84 ⟨rfl, E5 (fun z => some (AV.int z)) qz8, rfl, rfl, trivial⟩))
   ·exact ⟨by rw [G3, I9, Q8]; omega, by rw [G3, I9, Q8]; omega, fun o ho => (u6.1 ho).elim (hinv.2.2 o) fun e => by rw [X9.1 e]; exact ok14.2⟩
   omega
  intro gh30;refine Al3 rfl rfl (X0 rfl rfl rfl) (fun hq => by rw [gh30] at hq; cases hq) (fun _ => ?_);refine A1 rfl (Cj7 rfl zA (Bt1 (x := AV.bool false) gh30)) ?_;refine zC ?_ ?_
  ·intro h32;refine zL [0, 1, 0] ?_;refine zq76 ?_;intro x36 ok36;refine R9 ?_;refine G1 (by' := 48) 1 rfl rfl rfl rfl U6 type112 rfl rfl rfl rfl rfl rfl zA zA rfl qz3 ?_;intro v42_3;refine R7 ?_;refine AB7 n cc l v (n - 1) (x14.1) (l ++ [x14.2]) (v42_3) ?_ ?_ (Le.trans (B4 [0, 1, 0] rfl) (C7 1 qz84 ⟨rfl, E5 (fun z => some (AV.int z)) qz8, rfl, rfl, trivial⟩))
   ·exact ⟨by rw [G3, I9, Q8]; omega, by rw [G3, I9, Q8]; omega, fun o ho => (u6.1 ho).elim (hinv.2.2 o) fun e => by rw [X9.1 e]; exact ok14.2⟩
   omega
  intro h32;refine R5 ?_;refine G1 (by' := 48) 2 rfl rfl rfl rfl U6 type112 rfl rfl rfl rfl rfl rfl zA zA rfl qz3 ?_;intro v42_4;refine R7 ?_;refine AB7 n cc l v (n - 1) (x14.1) (l ++ [x14.2]) (v42_4) ?_ ?_ (Le.trans (B4 [0, 0, 0] rfl) (C7 1 qz84 ⟨rfl, E5 (fun z => some (AV.int z)) qz8, rfl, rfl, trivial⟩))
  ·exact ⟨by rw [G3, I9, Q8]; omega, by rw [G3, I9, Q8]; omega, fun o ho => (u6.1 ho).elim (hinv.2.2 o) fun e => by rw [X9.1 e]; exact ok14.2⟩
  omega
 intro h10 k10;refine R7 ?_
 (refine I5 [0, 0] ((cc, l, v)) ?_ rfl n9 M9; exact ⟨show cc.p ≤ _ by omega, ⟨show 1 ≤ l.length by omega, show l.length ≤ 4 by omega⟩, hinv.2.2⟩)
end Go.PQ
namespace Go.PQ
open Go.Proofs Go.Proofs.Tryz
open Go Go.AV Go.M
attribute [local irreducible] OpW OpA OpS AWP K6 L8 K8 OpE K7 I7 L1 Le Ev G4 M7 j0 Int.tmod Int.tdiv IntKind.wrap
theorem Cu0 (k : Int) : E1 213 [AV.int k] (AV.bool (Ai9 k)) := by
  refine B2 func213 rfl ntmps213 rfl ?_;refine R15 ?_;exact zq10
theorem DC0 (k : Int) : E1 214 [AV.int k] (AV.bool (Aq9 k)) := by
  refine B2 func214 rfl ntmps214 rfl ?_;refine R15 ?_;exact zq10
theorem DO6 (o : TOp) (hs : o.size ≤ 1048576) : E1 190 [AV.agg o.cs] (AV.bool (Au2 o)) := by
  have hs' := hs; unfold TOp.size at hs';refine B2 func190 rfl ntmps190 rfl ?_;refine R3 ?_;intro b1;refine R6 ?_;refine zF rfl call45 (Z2 _ _ _) AR2 ?_;refine R3 ?_;refine J6 rfl (fun hc => zG rfl call129 (Ay0 _ qz8) (A2 (A9 rfl hc) B0)) ?_;refine R4 ?_;refine J6 rfl (fun hc => zG rfl call175 (Bn8 _ qz8) (A2 (A9 rfl hc) B0)) ?_;refine R4 ?_;refine J6 rfl (fun hc => zG rfl call213 (Cu0 _) zS) ?_;refine R3 ?_;refine AC2 rfl rfl (BM6 rfl rfl rfl) (fun hc => Ak4 rfl (A9 rfl hc) (J1 (l := []) rfl)) ?_;refine R5 ?_;refine J6 rfl (fun hc => zG rfl call45 (Z2 _ _ _) (A2 (A9 rfl hc) AP3)) ?_;refine R4 ?_;refine J6 rfl (fun hc => zG rfl call214 (DC0 _) zS) ?_;refine R9 ?_;exact zq10
theorem CU5 (c : TOp) (hs : c.size ≤ 1048576) : E1 189 [AV.agg c.cs] (AV.bool (!Au2 c)) := by
  refine B2 func189 rfl ntmps189 rfl ?_;refine R3 ?_;intro b1;refine R5 ?_;refine zF rfl call190 (DO6 _ W5) (A2 (A0 rfl) B0) ?_;exact zq109
theorem Ch0 (l : List TOp) (hs : C9 TOp.size l ≤ 1048576) : E1 150 [AV.list 4 (l.map TOp.cs)] (AV.bool (AB9 l)) := by
  have hm : ∀ x ∈ l, x.size ≤ 1048576 := fun x hx => L4 (Av0 hx) hs;refine B2 func150 rfl ntmps150 rfl ?_;refine R11 ?_;refine J6 rfl (fun hc => zG rfl call188 (Bj8 _ _ _ Aw1) (A2 (A9 rfl hc) (A2 (BX3 call189 (fun c h => CU5 c h)) B0))) ?_;refine R5 ?_;exact D5 rfl (A8 rfl (by exact E5 AV.bool (by simp only [A7]; rfl)))
namespace tw7n1
def tw7x0 := @Tryz.func78
def tw7x1 := @Tryz.ntmps78
def tw7x2 := @R3
end tw7n1
open tw7n1 in
theorem DC1 (n : Int) : E1 78 [AV.int n] (AV.bool (BE9 n)) := CT9
theorem Cu1 (x : H3) (hs : x.Key.length ≤ 4611686018427387904) : E1 93 [AV.agg x.cs] (AV.bool (BG7 x)) := by
  refine B2 Tryz.func93 rfl Tryz.ntmps93 rfl ?_;refine R3 ?_;intro b1;refine R6 ?_;refine zF rfl Tryz.call129 (Ay0 _ qz8) (A2 (A0 rfl) B0) ?_;refine R3 ?_;refine J6 rfl (fun hc => zG rfl Tryz.call78 (DC1 _) zS) ?_;exact zq109
theorem Ch1 (x : H3) (hs : x.Key.length ≤ 4611686018427387904) : E1 118 [AV.agg x.cs] (AV.bool (BG7 x)) := by
  refine B2 Tryz.func118 rfl Tryz.ntmps118 rfl ?_;refine R3 ?_;intro b1;refine R6 ?_;refine zq100 ?_;refine R3 ?_;refine zq38 ?_;refine R4 ?_;exact D5 rfl (A8 rfl (by exact E5 AV.bool (by unfold BG7 BE9; rw [AA2])))
theorem Cu2 (x y : H3) : E1 96 [AV.agg x.cs, AV.agg y.cs] (AV.bool (Ar0 x y)) := by
  refine B2 Tryz.func96 rfl Tryz.ntmps96 rfl ?_;refine R3 ?_;intro b2;refine R1 ?_;intro b3;refine R27 ?_;exact zq10
theorem CC8 (x y : H3) : E1 95 [AV.agg y.cs, AV.eptr x.cs] (AV.bool (BH7 x y)) := by
  refine B2 Tryz.func95 rfl Tryz.ntmps95 rfl ?_;refine R3 ?_;intro b2;refine R6 ?_;refine zF rfl Tryz.call96 (Cu2 _ _) F4 ?_;refine R17 ?_;exact zq10
theorem bool_naG : ∀ {a b : Bool}, (!a || b) = true → (a && !b) = false := by decide
theorem CL1 (l : List H3) (hs : C9 H3.size l ≤ 4194304) : E1 43 [AV.list 3 (l.map H3.cs)] (AV.bool (AU7 l)) := by
 have hl : l.length ≤ 4194304 := L4 O2 hs;refine B2 Tryz.func43 rfl Tryz.ntmps43 rfl ?_;refine R12 ?_;refine F8 [(0, _), (5, _), (6, _)] _ (fun (i : Nat) => i ≤ l.length ∧ AM6 [] l = AM6 (l.take i) (l.drop i)) (fun i => []) (fun i => [(7, AV.int i)]) (fun i => l.length - i) (0) ?_ (H0 A4) ?_
 ·exact zq8
 intro i hinv;refine zK ?_ ?_
 ·intro h8 k8;have hlt : i < l.length := by omega
  obtain ⟨x, hx⟩ := B3 hlt;have hxs : x.Key.length ≤ 4194304 := L4 (Y4 (f := H3.size) hx) hs;refine zq23 ?_;intro b4;refine R6 ?_;refine zF rfl Tryz.call93 (Cu1 _ qz8) (A2 (A0 rfl) B0) ?_;refine R4 ?_;refine T6 rfl (fun hc => AN5 rfl U5 q9 (A9 rfl hc) (A9 rfl hc) qz6 qz6) ?_;refine T6 rfl (fun hc => BR2 rfl rfl I4) ?_;refine T6 rfl (fun hc => m5 rfl Tryz.call94 rfl (BY3 _ _ _ Aw1) (U2 _) (O6 (evb (A9 rfl hc)) (O6 (AY7 (At4 0 (A9 rfl hc) rfl) (Ak5 Tryz.call95 (fun y (_ : True) => CC8 _ y))) o0))) ?_;refine zC ?_ ?_
  ·intro h21;have hbad : AM6 [] l = false := by rw [hinv.2, Ah7 hx, show (BG7 x && !((l.take i).any (BH7 x))) = false from bool_naG h21]; rfl
   refine R5 ?_;exact D5 rfl (A8 rfl qz64)
  intro h21;refine R5 ?_;refine G5 i (i + 1) ?_ ?_ (S4 1 A4)
  ·exact ⟨by omega, by rw [hinv.2, Ah7 hx]; cases ha : BG7 x <;> simp_all⟩
  omega
 intro h8 k8;have hge : l.length ≤ i := by omega
 have hgf : AM6 [] l = true := by rw [hinv.2, n5 hge]; rfl
 refine R9 ?_;exact D5 rfl (A8 rfl qz64)
theorem Ch2 (l : List H3) (hs : C9 H3.size l ≤ 4194304) : E1 66 [AV.list 3 (l.map H3.cs)] (AV.bool (AU7 l)) := by
 have hl : l.length ≤ 4194304 := L4 O2 hs;refine B2 Tryz.func66 rfl Tryz.ntmps66 rfl ?_;refine R12 ?_;refine F8 [(0, _), (7, _), (8, _)] _ (fun (i : Nat) => i ≤ l.length ∧ AM6 [] l = AM6 (l.take i) (l.drop i)) (fun i => []) (fun i => [(9, AV.int i)]) (fun i => l.length - i) (0) ?_ (H0 A4) ?_
 ·exact zq8
 intro i hinv;have hinv0 := hinv; clear hinv;refine zK ?_ ?_
 ·intro h10 k10;have hlt : i < l.length := by omega
  obtain ⟨x, hx⟩ := B3 hlt;have hxs : x.Key.length ≤ 4194304 := L4 (Y4 (f := H3.size) hx) hs;refine zq23 ?_;intro b4;refine R7 ?_;refine zF rfl Tryz.call118 (Ch1 _ qz8) (A2 (A0 rfl) B0) ?_;refine zC ?_ ?_
  ·intro h16;have hbad : AM6 [] l = false := by rw [hinv0.2, Ah7 hx]; simp_all
   refine R5 ?_;exact D5 rfl (A8 rfl qz64)
  intro h16;have hlk : BG7 x = true := by simpa using h16
  refine R5 ?_;refine A1 rfl (AN5 rfl U5 q9 zA zA qz3 qz3) ?_;refine R4 ?_;refine F8 [(0, _), (3, _), (4, _), (7, _), (8, _), (9, _), (10, _), (11, _), (12, _), (13, _), (14, _), (15, _), (16, _), (17, _), (18, _), (19, _), (20, _)] _ (fun (j : Nat) => j ≤ i ∧ ((l.take i).take j).any (BH7 x) = false) (fun j => []) (fun j => [(21, AV.int j)]) (fun j => i - j) (0) ?_ (H0 A4) ?_
  ·exact zq8
  intro j hinv;refine zK ?_ ?_
  ·intro h22 k22;have hlt2 : j < i := by (rw [H4] at k22; omega)
   obtain ⟨y, hy⟩ := B3 (show j < l.length by omega);have hy' : (l.take i)[j]? = some y := by rw [AH0 hlt2, hy]
   refine R5 ?_;refine A1 rfl (C8 rfl U5 q9 zA zA hy' qz3) ?_;refine R2 ?_;intro b6;refine R19 ?_;refine T6 rfl (fun hc => zG rfl Tryz.call119 (BZ5 _ _) zS) ?_;refine zC ?_ ?_
   ·intro h41;have hq : BH7 x y = true := by (unfold BH7; rw [Bool.or_comm]; simpa using h41)
    have hbad : AM6 [] l = false := by rw [hinv0.2, Ah7 hx, show (l.take i).any (BH7 x) = true from List.any_eq_true.2 ⟨y, C2 hy', hq⟩]; simp
    refine R5 ?_;exact D5 rfl (A8 rfl qz64)
   intro h41;have hq : BH7 x y = false := by (unfold BH7; rw [Bool.or_comm]; simpa using h41)
   refine R5 ?_;refine G5 j (j + 1) ?_ ?_ (S4 1 A4)
   ·exact ⟨by omega, by rw [W1, hy', List.any_append, hinv.2]; simpa [BH7] using hq⟩
   omega
  intro h22 k22;have hge2 : i ≤ j := by (rw [H4] at k22; omega)
  have hany : (l.take i).any (BH7 x) = false := by have := hinv.2; rwa [T4 Br9] at this
  refine R5 ?_;refine G5 i (i + 1) ?_ ?_ (S4 1 A4)
  ·exact ⟨by omega, by rw [hinv0.2, Ah7 hx, hlk, hany]; rfl⟩
  omega
 intro h10 k10;have hge : l.length ≤ i := by omega
 have hgf : AM6 [] l = true := by rw [hinv0.2, n5 hge]; rfl
 refine R9 ?_;exact D5 rfl (A8 rfl qz64)
end Go.PQ
namespace Go.Proofs
open Go.Shelf
def Tryz.atoi_ren : Go.Shelf.Ren := ⟨fun | 172 => 159 | 244 => 194 | 245 => 195 | 247 => 222 | 279 => 223 | 280 => 224 | 281 => 225 | 282 => 226 | 287 => 263 | 316 => 264 | 171 => 62 | 205 => 265 | 321 => 306 | 322 => 307 | 243 => 115 | 246 => 160 | 283 => 196 | 284 => 197 | 285 => 198 | 286 => 199 | 129 => 228 | 317 => 227 | 318 => 229 | 319 => 230 | 320 => 231 | 337 => 266 | 338 => 267 | n => n, fun | 9 => 9 | 3 => 3 | 75 => 130 | 76 => 131 | 4 => 4 | 5 => 5 | 167 => 259 | 37 => 22 | 0 => 0 | 85 => 260 | 2 => 2 | 168 => 262 | 53 => 84 | 175 => 297 | 46 => 199 | 210 => 301 | 127 => 171 | 145 => 339 | 143 => 337 | 21 => 21 | 171 => 235 | 173 => 238 | 212 => 266 | 51 => 267 | 20 => 20 | 213 => 268 | 232 => 340 | 233 => 341 | 80 => 133 | n => n, fun | 15 => 1 | 16 => 2 | 17 => 0 | 18 => 3 | 19 => 4 | n => n⟩
theorem Tryz.atoi : Go.Proofs.LaysC.n172 Tryz.prog Tryz.atoi_ren := by
  repeat' first | kernel_rfl | (intro w; kernel_rfl) | constructor
end Go.Proofs
namespace Go.PQ
open Go.Proofs
open Go Go.AV Go.M
attribute [local irreducible] OpW OpA OpS AWP K6 L8 K8 OpE K7 I7 L1 Le Ev G4 M7 Int.tmod Int.tdiv IntKind.wrap
def BA4 (w : World) : Prop := BH8 w ∧ (∃ tp p, w.var? Tryz.prog "strconv.ErrSyntax" = some #[.iface tp p]) ∧ (∃ tp p, w.var? Tryz.prog "strconv.ErrRange" = some #[.iface tp p])
theorem DO7 {W w' : World} (h : BA4 W) (hw : RLe (Ay9 W) w') : BA4 w' :=
  let ⟨h1, ⟨t3, p3, h3⟩, ⟨t4, p4, h4⟩⟩ := h
  ⟨DX8 h1 hw, ⟨t3, p3, Cm4 h3 hw⟩, ⟨t4, p4, Cm4 h4 hw⟩⟩
theorem DY9 (s : Str) (hs : s.length ≤ 1048576) : E1 159 [AV.wt BA4 (AV.str s)] (AV.tup [AV.int (AU0 s), AV.errB (AY2 s)]) :=
  Cm3 fun R w v hr hx hT => by
    have hsz : (ByteArray.mk s.toArray).size = s.length := Au5 s;obtain ⟨_, ⟨t3, p3, h3⟩, ⟨t4, p4, h4⟩⟩ := hT;rw [show v = Value.string ⟨s.toArray⟩ from hx];rcases ha : Lib.atoiAll s with n | _ | _
    · have e1 : AU0 s = n := by unfold AU0; rw [ha]
      have e2 : AY2 s = false := by unfold AY2; rw [ha]
      rw [e1, e2];refine (Any.strconv_Atoi_ok Tryz.atoi ⟨s.toArray⟩ (by rw [hsz]; omega) n ha w).mono ?_
      rintro e w' ⟨rfl, hw⟩
      exact ⟨_, rfl, ⟨_, rfl, i4.cons rfl (i4.cons ⟨fun _ => rfl, fun h => Ab8⟩ (i4.nil _))⟩, by (rcases hw with rfl | ⟨t, rfl⟩); exact DI1 _; exact Cx4 _ _ _⟩
    · have e1 : AU0 s = 0 := by unfold AU0; rw [ha]
      have e2 : AY2 s = true := by unfold AY2; rw [ha]
      rw [e1, e2];refine (Any.strconv_Atoi_syntax_var Tryz.atoi ⟨s.toArray⟩ (by rw [hsz]; omega) ha t3 p3 w h3).mono ?_
      rintro e w' ⟨N, rfl, _, _, hb⟩
      exact zq152
    · have e1 : AU0 s = Lib.atoiSat s := by unfold AU0; rw [ha]
      have e2 : AY2 s = true := by unfold AY2; rw [ha]
      rw [e1, e2];refine (Any.strconv_Atoi_range_var Tryz.atoi ⟨s.toArray⟩ (by rw [hsz]; omega) ha t4 p4 w h4).mono ?_
      rintro e w' ⟨N, rfl, _, _, hb⟩
      exact zq152
theorem Cu3 (s : Str) (lo hi : Int) (hs : s.length ≤ 1048576) : E1 114 [AV.wt BA4 (AV.str s), AV.int lo, AV.int hi] (AV.tup [AV.int (AU1 s lo hi).1, AV.bool (AU1 s lo hi).2]) := by
 refine B2 Tryz.func114 rfl Tryz.ntmps114 rfl ?_;refine zq129 ?_;refine R8 ?_;refine A1 rfl (Ac7 0 rfl rfl Tryz.call159 rfl (DY9 s hs) I4 Ap6) ?_;refine R10 ?_;refine A1 rfl (w_errneq rfl E6 zA) ?_;refine R4 ?_;refine T6 rfl (fun hc => zG rfl Tryz.call45 (Z2 _ _ _) zS) ?_;refine R4 ?_;refine T6 rfl (fun hc => Ac7 0 rfl rfl Tryz.call62 rfl (Av5 (AU0 s) (DY8 s)) zS Ap6) ?_;refine zC ?_ ?_
 ·intro h29;have he : AU1 s lo hi = (0, false) := D3 h29;rw [he];refine R6 ?_;exact zq66
 intro h29;have he : AU1 s lo hi = (AU0 s, true) := C5 (by rw [h29]; decide);rw [he];refine R8 ?_;exact zq66
end Go.PQ
namespace Go.PQ
open Go.Proofs Go.Proofs.Tryz
open Go Go.AV Go.M
open Go.ChangeShapes Go.WideShapes Go.ChangeAt Go.RowKit
theorem star : "*" ++ "errors.errorString" = "*errors.errorString" := by decide
theorem errRow (u : TypeId) (h : Tryz.prog.typeName? 3 u = some "*errors.errorString") : u = 337 :=
  typeName_ptr_named (nm := "errors.errorString") (by rw [star]; kernel_rfl) E6 D4 u (by rw [star]; exact h)
theorem readW_of {W : World} (hL : laidMet Tryz.prog Go.Proofs.YtmggojkfhodjbaaGreatDoor.Rows.fnHistoriesRow.laid W) (hsh : W.ShapedOpen Tryz.prog) : BA4 W := by
  refine ⟨DX9 (laidMet.tail (laidMet.tail hL)), ?_, ?_⟩
  · have h5 := laidMet.tail (laidMet.tail (laidMet.tail (laidMet.tail hL)))
    obtain ⟨a, s, h, _⟩ := laid_sentinel (n := "strconv.ErrSyntax") (g := 1) (ti := 130) h5 E6 E6 underlying130 errRow underlying337 underlying339 rfl rfl O3 E6 E6;exact ⟨_, _, h⟩
  · have h4 := laidMet.tail (laidMet.tail (laidMet.tail hL))
    obtain ⟨a, s, h, _⟩ := laid_sentinel (n := "strconv.ErrRange") (g := 2) (ti := 130) h4 E6 E6 underlying130 errRow underlying337 underlying339 rfl rfl O3 E6 E6;exact ⟨_, _, h⟩
end Go.PQ
namespace Go.PQ
open Go.Proofs
open Go Go.Proofs Go.RowKit Go.Shelf Go.M
attribute [local go_sem] Oper.semAt_some
attribute [local go_sem] Oper.semAt_some
end Go.PQ
namespace Go.PQ
open Go.Proofs Go.Proofs.Tryz
open Go Go.AV Go.M
attribute [local irreducible] OpW OpA OpS AWP K6 L8 K7 L1 Le Ev G4
theorem DO8 (c : B6) (t : Int) (hl : c.Vers.length ≤ 4194304) : E1 325 [AV.agg c.cs, AV.int t] (AV.tup [AV.agg ((Aj9 c.Vers t).getD zV).cs, AV.bool (Aj9 c.Vers t).isSome]) := by
 refine B2 func325 rfl ntmps325 rfl ?_;refine R3 ?_;intro b2;refine R1 ?_;intro b4;refine R5 ?_;intro b6;refine R14 ?_;refine F8 [(1, _), (4, _), (5, _), (6, _), (11, _), (12, _)] _ (fun (i : Nat) => i ≤ c.Vers.length) (fun i => [.box b6 325 ((Aj9 (c.Vers.take i) t).getD zV).cs]) (fun i => [(7, AV.bool (Aj9 (c.Vers.take i) t).isSome), (13, AV.int i)]) (fun i => c.Vers.length - i) (0) ?_ (K5 B8 A4) ?_
 ·exact E2 _
 intro i hinv;refine zK ?_ ?_
 ·intro h14 k14;have hlt : i < c.Vers.length := by omega
  obtain ⟨x, hx⟩ := B3 hlt;have hvs := DJ2 (t := t) hx;refine zq0 ?_;intro b9;refine zK ?_ ?_
  ·intro h20 k20;have hve : Aj9 (c.Vers.take (i + 1)) t = some x := by rw [hvs, D3 k20]
   refine R12 ?_;refine G5 i (i + 1) ?_ ?_ (C7 1 (by first | (rw [hve]; rfl) | (rw [hve])) ⟨E5 (fun z : Bool => some (AV.bool z)) (by rw [hve]; try rfl), rfl, rfl, rfl, rfl, rfl, rfl, rfl, trivial⟩)
   ·omega
   omega
  intro h20 k20;have hve : Aj9 (c.Vers.take (i + 1)) t = Aj9 (c.Vers.take i) t := by rw [hvs, C5 k20]
  refine R5 ?_;refine G5 i (i + 1) ?_ ?_ (C7 1 (by first | (rw [hve]; rfl) | (rw [hve])) ⟨E5 (fun z : Bool => some (AV.bool z)) (by rw [hve]; try rfl), rfl, rfl, rfl, rfl, rfl, rfl, rfl, trivial⟩)
  ·omega
  omega
 intro h14 k14;have hge : c.Vers.length ≤ i := by omega
 rw [T4 hge];refine R9 ?_;exact Y9 rfl D4 (I1 (F5 (ys := _) 1 rfl rfl isAgg325 y9 rfl) (I1 (A8 rfl (by first | rfl | exact E5 AV.bool (by rw [T4 hge]))) z8))
theorem By8 (l : List B6) (k : Str) (t : Int) (hs : C9 B6.size l ≤ 4194304) : E1 291 [AV.list 2 (l.map B6.cs), AV.str k, AV.int t] (AV.tup [AV.str (cellAt l k t).1, AV.bool (cellAt l k t).2]) := by
 refine B2 func291 rfl ntmps291 rfl ?_;refine zq149 ?_;refine R6 ?_;refine zF rfl call324 (Bo4 _ _) F4 ?_;refine zK ?_ ?_
 ·intro h15 k15;have he : cellAt l k t = ([], false) := Cx6 (CR6 k15);rw [he];refine zq149 ?_;refine R3 ?_;exact zq66
 intro h15 k15;obtain ⟨p, c, hp, hc, hf⟩ := CR7 k15;rw [hp];have hcl := (Ab3 (L4 (Y4 hc) hs)).2.1;have he := (Cx7 (t := t) hf).trans (Ce5 c t);rw [he];refine R5 ?_;refine A1 rfl (zX hc) ?_;refine R2 ?_;refine zF rfl call325 (DO8 _ _ W5) (A2 (A0 rfl) (A2 (A0 rfl) B0)) ?_;refine R4 ?_;intro b9;refine R17 ?_;exact zq66
theorem CC9 (a b : List A5) : E1 28 [AV.list 3 (a.map A5.cs), AV.list 3 (b.map A5.cs)] (AV.bool (decide (a = b))) := by
 refine B2 func28 rfl ntmps28 rfl ?_;refine m2 (t := 0) rfl fun hl => ?_;try simp only [A7] at hl
 refine zC ?_ ?_
 ·intro h10;have k10 := Bk6 h10;(try simp only [A7] at k10);have hab : a ≠ b := by intro hc; subst hc; exact k10 rfl
  refine R5 ?_;exact zq166
 intro h10;have k10 := Aw6 h10;(try simp only [A7] at k10);have heq : a.length = b.length := by omega
 refine R9 ?_;refine F8 [(0, _), (1, _), (12, _)] _ (fun (i : Nat) => i ≤ a.length ∧ a.take i = b.take i) (fun i => []) (fun i => [(13, AV.int i)]) (fun i => a.length - i) (0) ?_ (H0 A4) ?_
 ·exact zq8
 intro i hinv;refine zK ?_ ?_
 ·intro h14 k14;have hlt : i < a.length := by omega
  obtain ⟨x, hx⟩ := B3 hlt;obtain ⟨y, hy⟩ := B3 (show i < b.length by omega);refine R12 ?_;refine zq168 ?_;refine R3 ?_;refine B7 rfl rfl (zX hy) ?_;refine zq126 ?_;refine zC ?_ ?_
  ·intro h24;have hab : a ≠ b := by intro hc; subst hc; rw [hx] at hy; injection hy with hy; subst hy; simp at h24
   refine R5 ?_;exact zq166
  intro h24;refine R5 ?_;refine G5 i (i + 1) ?_ ?_ (H0 A4)
  ·exact ⟨by omega, Cm7 hinv.2 hx (by rw [hy]; congr 1; first | (simp_all; done) | (cases x; cases y; simp_all))⟩
  omega
 intro h14 k14;have hge : a.length ≤ i := by omega
 have hab : a = b := DI3 heq hinv.2 hge;refine R6 ?_;exact zq166
attribute [local irreducible] K8 OpE I7 M7 j0 Int.tmod Int.tdiv IntKind.wrap T3
theorem Bv1 (s : E9) (n : Int) (hs : s.size ≤ 400000) : E1 366 [AV.agg s.cs, AV.int n] (AV.tup [AV.int (Bi1 s n).1, AV.bool (Bi1 s n).2]) := by
 refine B2 func366 rfl ntmps366 rfl ?_;refine R3 ?_;intro b2;refine R7 ?_;refine zF rfl call375 (CJ8 s qz8) I4 ?_;refine R3 ?_;refine T6 rfl (fun hc => zG rfl call70 (Ai5 _) zS) ?_;refine R6 ?_;refine T6 rfl (fun hc => zG rfl call211 (AG8 _ _) zS) ?_;refine zC ?_ ?_
 ·intro h20;have he : Bi1 s n = (0, false) := by (unfold Bi1 AA7; cases h1 : w7 s <;> cases h2 : M.j6 n <;> simp_all)
  rw [he];refine R6 ?_;exact zq66
 intro h20;have hg : w7 s = true ∧ M.j6 n = true := by (cases h1 : w7 s <;> cases h2 : M.j6 n <;> simp_all)
 have hn := CK8.1 hg.2;have hfl := (AN6.1 hg.1).floor;have hml : 0 ≤ AA7 s.Floor n ∧ AA7 s.Floor n ≤ 100000 := by (unfold AA7; split <;> omega)
 have hne : AA7 s.Floor n ≠ 100000 := fun hc9 => by (rw [hg.1, hg.2, show (if n < s.Floor then s.Floor else n) = (100000 : Int) from hc9] at h20; simp at h20)
 have he : Bi1 s n = (AA7 s.Floor n + 1, true) := by (unfold Bi1; rw [D3 (by rw [hg.1, hg.2]; rfl), D3 qz8])
 rw [he];refine R6 ?_;refine zF rfl call211 (AG8 _ _) F4 ?_;refine A1 rfl (BX2 rfl zA J4 (by show _ ≤ AA7 s.Floor n + 1 ∧ AA7 s.Floor n + 1 ≤ _; omega)) ?_;refine R4 ?_;exact zq66
end Go.PQ
namespace Go.AV
end Go.AV
namespace Go.PQ
open Go.Proofs Go.Proofs.Tryz
open Go Go.AV Go.M
attribute [local irreducible] OpW OpA OpS AWP K6 L8 K8 OpE K7 I7 L1 Le Ev G4 M7 j0 Int.tmod Int.tdiv IntKind.wrap T3
theorem CU6 (s : U4) : E1 48 [AV.agg s.cs] (AV.bool (AB6 s)) := by
  refine B2 func48 rfl ntmps48 rfl ?_;refine R3 ?_;intro b1;refine R6 ?_;refine zF rfl call45 (Z2 _ _ _) AR2 ?_;refine R3 ?_;exact zq5
theorem Cu4 (s : U4) : E1 67 [AV.agg s.cs] (AV.bool (AB6 s)) := by
  refine B2 func67 rfl ntmps67 rfl ?_;refine R3 ?_;intro b1;refine R6 ?_;refine zq132 ?_;refine R3 ?_;exact zq5
theorem DZ0 (c : U4) (now : Int) (hc : AB6 c = true) (hn : j6 now = true) : E1 279 [AV.agg c.cs, AV.int now] (AV.agg (AK9 c now).cs) := by
  have h1 := Cg9.1 hc;have h2 := CK8.1 hn;refine B2 func279 rfl ntmps279 rfl ?_;refine R3 ?_;intro b2;refine R1 ?_;intro b4;refine R17 ?_;exact D5 rfl (F5 (ys := _) 0 rfl rfl isAgg276 sizeOf276 rfl)
theorem CU7 (l : List Int) (s : Az0) (hs : s.High ≤ 1000000 ∧ -1000000 ≤ s.High) : E1 360 [ints l, AV.agg s.cs] (AV.int (An5 (s.High + 1) l)) := by
 refine B2 func360 rfl ntmps360 rfl ?_;refine m2 (t := 0) rfl fun hl => ?_;try simp only [A7] at hl
 refine R3 ?_;intro b3;refine R17 ?_;refine J5 [(4, _), (11, _), (12, _)] _ (fun (i : Nat) (m : Int) => i ≤ l.length ∧ m = An5 (s.High + 1) (l.take i)) (fun i m => []) (fun i m => [(5, AV.int m), (13, AV.int i)]) (fun i m => l.length - i) (0) (s.High + 1) ?_ (H0 A4) ?_
 ·exact zq8
 intro i m hinv;refine zK ?_ ?_
 ·intro h14 k14;have hlt : i < l.length := by omega
  obtain ⟨x, hx⟩ := B3 hlt;refine zq83 ?_;refine R6 ?_;refine zF rfl call211 (AG8 _ _) F4 ?_;refine R6 ?_;refine G0 i m (i + 1) (AA7 m x) ?_ ?_ (H0 A4)
  ·exact ⟨by omega, by rw [By6 hx, hinv.2]⟩
  omega
 intro h14 k14;have hge : l.length ≤ i := by omega
 rw [show m = An5 (s.High + 1) l from by rw [hinv.2, T4 hge]];refine R7 ?_;exact zq5
theorem Ch3 (s : E9) (x : Az0) (hs : s.Floor ≤ 1000000 ∧ -1000000 ≤ s.Floor) (hx : x.High ≤ 1000000 ∧ -1000000 ≤ x.High) : E1 238 [AV.agg s.cs, AV.agg x.cs] (AV.int (AA7 1 (AA7 (s.Floor + 1) (x.High + 10)))) := by
  refine B2 func238 rfl ntmps238 rfl ?_;refine R3 ?_;intro b2;refine R1 ?_;intro b3;refine R10 ?_;refine zF rfl call211 (AG8 _ _) F4 ?_;refine zq170 ?_;refine R3 ?_;exact zq5
theorem BH4 (l : List K4) (m : Int) (hm : 0 ≤ m ∧ m ≤ l.length) (hk : LogK l) : E1 164 [AV.list 8 (l.map K4.cs), AV.int m] (AV.agg (Ba5 l m.toNat).cs) := by
 obtain ⟨n, rfl⟩ : ∃ n : Nat, m = (n : Int) := ⟨m.toNat, by omega⟩;have hnl : n ≤ l.length := by omega
 have hl6 := hk.len;refine B2 func164 rfl ntmps164 rfl ?_;refine R3 ?_;intro b4;refine R3 ?_;refine V0 190 7 rfl rfl rfl rfl I2 ?_;intro v5;refine R6 ?_;refine A1 rfl (AN5 rfl P8 X2 zA zA qz8 (by (try simp only [A7]); omega)) ?_;refine R4 ?_;refine J5 [(4, _), (12, _), (13, _)] _ (fun (i : Nat) (v : Value) => i ≤ n) (fun i v => [.arr v 190 7 ((AK8 (l.take i)).map N9.cs)]) (fun i v => [(5, AV.is v), (14, AV.int i)]) (fun i v => n - i) (0) (v5) ?_ (K5 B8 A4) ?_
 ·exact E2 _
 intro i v hinv;refine zK ?_ ?_
 ·intro h15 k15;have hlt : i < n := (by simp only [A7, H4] at k15; omega);obtain ⟨x, hx⟩ := B3 (show i < l.length by omega);have hx2 : (l.take ((n : Int)).toNat)[i]? = some x := (by rw [AA4, AH0 hlt]; exact hx);have hrl : (AK8 (l.take i)).length ≤ 60 := qz195;refine R5 ?_;refine A1 rfl (zX hx2) ?_;refine R2 ?_;intro b7;refine R5 ?_;refine A1 rfl (Bz9 _ 0 rfl zA rfl Ad3 AJ7 rfl rfl) ?_;refine R1 ?_;refine G1 (by' := 88) 1 rfl rfl rfl rfl AN3 type190 rfl rfl rfl rfl rfl rfl zA zA rfl (by simp only [A7, W7]; omega) ?_;intro v22_1;refine R6 ?_;refine G0 i v (i + 1) (v22_1) ?_ ?_ (Le.trans (B4 [0, 0] rfl) (C7 1 (by (rw [Cc3 hx, X8]; rfl)) A4))
  ·exact qz8
  omega
 intro h15 k15;have hge : i = n := (by simp only [A7, H4] at k15; omega);subst hge;have hrl : (AK8 (l.take i)).length ≤ 60 := qz195;have hrs : ∀ r ∈ AK8 (l.take i), r.size ≤ 1100 := fun r hr => (by obtain ⟨e, he, rfl⟩ := m1.1 hr; exact hk.recs e (AW6 he));refine R4 ?_;refine BD6 (AL9 [0] 25 rfl rfl (K3 (C2 (i := 0) rfl) F6) AU4) ?_;refine zF rfl call201 (ofF_spec (AK8 (l.take i)) hrl hrs) I4 ?_;refine R4 ?_;intro b8;refine R9 ?_;exact D5 rfl (F5 (ys := _) 1 rfl rfl Q1 M2 rfl)
theorem AN8 (g : D0) (gg : GG g) : E1 288 [AV.agg g.cs] (AV.bool (AW0 g)) := by
 refine B2 func288 rfl ntmps288 rfl ?_;refine R3 ?_;intro b1;refine zK ?_ ?_
 ·intro h8 k8;have he : AW0 g = false := (by unfold AW0; rw [AP9 qz8]; rfl);rw [he];exact zq63
 intro h8 k8;have hl0 : 0 ≤ g.Lead := qz8;have hin := BM0 gg hl0;obtain ⟨L, hL⟩ : ∃ L, P0 g g.Lead = L := ⟨_, rfl⟩;have hxl := AC3 hin;have hgr := gg.reps _ (AK6 hin);rw [hL] at hxl hgr;have hsr := hgr.sure;have hl6 := hgr.len;obtain ⟨n, hn⟩ : ∃ n : Nat, L.Sure = (n : Int) := ⟨L.Sure.toNat, by omega⟩;have he : AW0 g = (L.Log.take n).any (fun e => e.Term == g.Term) := (by unfold AW0; rw [q8 hl0, hL, hn]; rfl);rw [he];refine R7 ?_;refine A1 rfl (C8 rfl I0 L0 zA zA hxl qz8) ?_;refine R2 ?_;intro b3;refine R4 ?_;rw [show L.cs = [AV.bool L.Up, AV.list 8 (L.Log.map K4.cs), AV.int (n : Int)] by rw [← hn]; rfl];refine R5 ?_;refine A1 rfl (AN5 rfl P8 X2 zA zA qz8 (by (try simp only [A7]); omega)) ?_;refine R4 ?_;refine F8 [(1, _), (19, _), (20, _)] _ (fun (i : Nat) => i ≤ (L.Log.take n).length ∧ ((L.Log.take n).any fun e => e.Term == g.Term) = (((L.Log.take n).drop i).any fun e => e.Term == g.Term)) (fun i => []) (fun i => [(21, AV.int i)]) (fun i => (L.Log.take n).length - i) (0) ?_ (H0 A4) ?_
 ·exact zq8
 intro i hinv;refine zC ?_ ?_
 ·intro h22;have hlt : i < (L.Log.take n).length := BI1;have h9 : (L.Log.take n).length ≤ L.Log.length := Br9;obtain ⟨x, hx⟩ := B3 hlt;refine zq0 ?_;intro b5;refine zC ?_ ?_
  ·intro h29;rw [hinv.2, J7 hx, Aj8, h29];exact zq63
  intro h29;refine R5 ?_;refine G5 i (i + 1) ?_ ?_ (S4 1 A4)
  ·exact ⟨by omega, by rw [hinv.2, J7 hx, Aj8, h29]; rfl⟩
  omega
 intro h22;have hge : (L.Log.take n).length ≤ i := BI1;rw [hinv.2, n5 hge];exact zq151
theorem BO6 (g : D0) (gg : GG g) : E1 122 [AV.agg g.cs] (AV.agg (AV9 g).cs) := by
 have h0l : 0 < g.Reps.length ∧ g.Reps.length ≤ 5 := by have := gg.many; omega
 refine B2 func122 rfl ntmps122 rfl ?_;refine R3 ?_;intro b1;refine R1 ?_;intro b2;refine R14 ?_;refine J5 [(1, _), (2, _), (7, _), (8, _)] _ (fun (i : Nat) (p : Nat) => i ≤ g.Reps.length ∧ g.Reps[p]? = some ((g.Reps.take i).foldl (fun b r => if b.Sure < r.Sure then r else b) (P0 g 0))) (fun i p => []) (fun i p => [(3, AV.int p), (9, AV.int i)]) (fun i p => g.Reps.length - i) (0) (0) ?_ (H0 A4) ?_
 ·exact ⟨E2 _, AC3 (g := g) (r := 0) ⟨Int.le_refl _, by omega⟩⟩
 intro i p hinv;refine zK ?_ ?_
 ·intro h10 k10;have hlt : i < g.Reps.length := Ab9;obtain ⟨x, hx⟩ := B3 hlt;refine zq23 ?_;intro b5;refine R10 ?_;refine B7 rfl rfl (C8 rfl I0 L0 zA zA hinv.2 qz3) ?_;refine zK ?_ ?_
  ·intro h22 k22;refine R8 ?_;refine G0 i p (i + 1) (i) ?_ ?_ (S4 1 A4)
   ·exact ⟨by omega, by rw [BS7 hx, D3 k22]; exact hx⟩
   omega
  intro h22 k22;refine R5 ?_;refine G0 i p (i + 1) (p) ?_ ?_ (S4 1 A4)
  ·exact ⟨by omega, by rw [BS7 hx, C5 k22]; exact hinv.2⟩
  omega
 intro h10 k10;have hge : g.Reps.length ≤ i := Ab9;have hb : g.Reps[p]? = some (AY4 g) := (by have h9 := hinv.2; rw [T4 hge] at h9; exact h9);have hgr := gg.reps _ (Bt8 gg);refine R2 ?_;refine M6 13 E6 E6 rfl ?_;refine R3 ?_;refine B7 rfl rfl (zX hb) ?_;refine R5 ?_;refine B7 rfl rfl (zX hb) ?_;refine R2 ?_;refine B7 rfl rfl (zG rfl call164 (BH4 (AY4 g).Log (AY4 g).Sure hgr.sure (CU4 hgr)) F4) ?_;refine R4 ?_;exact D5 rfl (F5 (ys := _) 0 rfl rfl Q1 M2 rfl)
def B5.ocs (t : B5) (y : Value × Value) : List AV := [AV.list 4 (t.Ops.map TOp.cs), AV.is y.1, AV.is y.2, AV.int t.Begin, AV.int t.End, AV.bool t.Yes, AV.int t.Time, AV.bool t.Dead, AV.bool t.Put, AV.bool t.Stopped]
def B5.ow (t : B5) (y : Value × Value) : List Go.AV.Own := [.arr y.1 71 3 (t.Got.map F9.cs), .arr y.2 3 1 (t.Terms.map fun n => [AV.int n])]
def B9.ocs (l : B9) (y : Value) : List AV := [AV.int l.Node, strs l.Keys, AV.is y, AV.int l.Time, AV.int l.Begin, AV.int l.End]
def B9.ow (l : B9) (y : Value) : List Go.AV.Own := [.arr y 71 3 (l.Got.map F9.cs)]
@[reducible] def nwZ (w : D1) (T : List (Value × Value)) (L : List Value) : List Go.AV.Own := nin B5.ow w.Txns T ++ nin B9.ow w.Looks L
theorem B5.lcM {own : List Go.AV.Own} (t : B5) (y : Value × Value) (h : ∀ o ∈ B5.ow t y, o ∈ own) : AH5 own (B5.ocs t y) t.cs := C1 E4 (C1 (K3 (h _ (C2 (i := 0) rfl)) F6) (C1 (K3 (h _ (C2 (i := 1) rfl)) F6) AI4))
theorem B9.lcM {own : List Go.AV.Own} (l : B9) (y : Value) (h : ∀ o ∈ B9.ow l y, o ∈ own) : AH5 own (B9.ocs l y) l.cs := C1 E4 (C1 E4 (C1 (K3 (h _ (C2 (i := 0) rfl)) F6) AI4))
structure WX where
  cl : Value
  gr : Value
  lo : Value
  pr : Value
  tx : Value
  lk : Value
def WB (b : Nat) (w : D1) (X : WX) (T : List (Value × Value)) (L : List Value) : List Go.AV.Own :=
  .box b 245 [AV.int w.Now, AV.int w.Count, AV.is X.cl, strs w.Cuts, AV.is X.gr, AV.is X.lo, AV.is X.pr, AV.is X.tx, AV.is X.lk] ::
  .arr X.cl 101 1 (w.Clocks.map U4.cs) :: .arr X.gr 93 3 (w.Groups.map D0.cs) :: .arr X.lo 96 1 (w.Locks.map fun l => [AV.list 3 (l.map H3.cs)]) ::
  .arr X.pr 3 1 (w.Promised.map fun n => [AV.int n]) :: .arr X.tx 55 10 (J9 B5.ocs w.Txns T) :: .arr X.lk 73 6 (J9 B9.ocs w.Looks L) ::
  (nin B5.ow w.Txns T ++ nin B9.ow w.Looks L)
theorem Av7 (b : Nat) (w : D1) (X : WX) (T : List (Value × Value)) (L : List Value) (g : Int) (gi : D0) (hx : w.Groups[g.toNat]? = some gi) (h0 : 0 ≤ g) (gg : GG gi) (hl : 0 ≤ gi.Lead) : L7 290 [AV.ptr b 0, AV.int g] (WB b w X T L) (fun _ : Unit => True) (fun _ => WB b w X T L) (fun _ => AV.agg (m9 gi).cs) := by
 have hin := BM0 gg hl;have hgr := gg.reps _ (AK6 hin);have hgl := (G2.1 hx).1;refine C6 func290 rfl ntmps290 rfl ?_;refine R3 ?_;intro b4;refine zq182 ?_;intro b5 _;refine R9 ?_;refine zF rfl call164 (BH4 (P0 gi gi.Lead).Log (P0 gi gi.Lead).Sure hgr.sure (CU4 hgr)) F4 ?_;exact zq150
theorem Af3 (b : Nat) (w : D1) (X : WX) (T : List (Value × Value)) (L : List Value) (g : Int) (gi : D0) (hx : w.Groups[g.toNat]? = some gi) (h0 : 0 ≤ g) (gg : GG gi) (hl : 0 ≤ gi.Lead) : L7 239 [AV.ptr b 0, AV.int g] (WB b w X T L) (fun _ : Unit => True) (fun _ => WB b w X T L) (fun _ => AV.agg (i0 gi).cs) := by
 have hin := BM0 gg hl;have hgr := gg.reps _ (AK6 hin);have hgl := (G2.1 hx).1;have hf : E1 164 [AV.list 8 ((P0 gi gi.Lead).Log.map K4.cs), AV.int ((((P0 gi gi.Lead).Log.map K4.cs).length : Nat) : Int)] (AV.agg (i0 gi).cs) := by rw [A7]; exact BH4 _ _ ⟨by omega, by omega⟩ (CU4 hgr)
 refine C6 func239 rfl ntmps239 rfl ?_;refine R3 ?_;intro b4;refine zq182 ?_;intro b5 _;refine R10 ?_;refine zF rfl call164 (hf) F4 ?_;exact zq150
theorem BS8 (b : Nat) (w : D1) (X : WX) (T : List (Value × Value)) (L : List Value) (node : Int) (c : U4) (hx : w.Clocks[node.toNat]? = some c) (h0 : 0 ≤ node) (hc : AB6 c = true) (hn : j6 w.Now = true) : L7 240 [AV.ptr b 0, AV.int node] (WB b w X T L) (fun _ : Unit => True) (fun _ => WB b w X T L) (fun _ => AV.agg (AK9 c w.Now).cs) := by
 have hcl := (G2.1 hx).1;refine C6 func240 rfl ntmps240 rfl ?_;refine R3 ?_;intro b4;refine R2 ?_;refine M6 14 E6 E6 rfl ?_;refine R6 ?_;refine B7 rfl rfl (I3 2 rfl T1 AC9 zA rfl zA qz8 AF3) ?_;refine B7 rfl rfl (w5 2 rfl zA rfl isAgg101 AC9 qz5 D4) ?_;refine R5 ?_;refine B7 rfl rfl (zG rfl call279 (DZ0 c w.Now hc hn) F4) ?_;refine R4 ?_;exact zq141
theorem BH5 (b : Nat) (w : D1) (X : WX) (T : List (Value × Value)) (L : List Value) (g : Int) (gi : D0) (c : U4) (hx : w.Groups[g.toNat]? = some gi) (h0 : 0 ≤ g ∧ g ≤ 3) (hl : 0 ≤ gi.Lead ∧ gi.Lead ≤ 5) (hcx : w.Clocks[(3 * g + gi.Lead).toNat]? = some c) (hc : AB6 c = true) (hn : j6 w.Now = true) : L7 361 [AV.ptr b 0, AV.int g] (WB b w X T L) (fun _ : Unit => True) (fun _ => WB b w X T L) (fun _ => AV.agg (AK9 c w.Now).cs) := by
  have hgl := (G2.1 hx).1;refine C6 func361 rfl ntmps361 rfl ?_;refine R3 ?_;intro b4;refine R5 ?_;refine A1 rfl (Ap8 rfl J4 zA qz3) ?_;refine R6 ?_;refine A1 rfl (I3 3 rfl H8 E7 zA rfl zA qz8 AF3) ?_;refine A1 rfl (L5 3 rfl Z0 rfl F2 zA rfl rfl qz5) ?_;refine A1 rfl (N5 3 rfl zA rfl Q4 qz5 rfl) ?_;refine R1 ?_;refine A1 rfl (AB0 [1, 1, 1, 1, 1, 1, 1] 1 (nwZ w T L) ([]) rfl call240 rfl rfl (o5) (BS8 b w X T L (3 * g + gi.Lead) c hcx qz8 hc hn) F4) ?_;refine R3 ?_;exact zq141
theorem Cu5 (b : Nat) (w : D1) (X : WX) (T : List (Value × Value)) (L : List Value) (g t : Int) (k : Str) (write : Bool) (gi : D0) (hx : w.Groups[g.toNat]? = some gi) (h0 : 0 ≤ g) (gg : GG gi) (hl : 0 ≤ gi.Lead) : ∃ r : Bool, L7 362 [AV.ptr b 0, AV.int g, AV.int t, AV.str k, AV.bool write] (WB b w X T L) (fun _ : Unit => True) (fun _ => WB b w X T L) (fun _ => AV.bool r) := by
 obtain ⟨f, hf⟩ : ∃ f : D2 → Bool, f = fun h => (h.Txn != t) && (AV7 h.Writes k || (write && BP5 h.Reads k)) := ⟨_, rfl⟩;refine ⟨[m9 gi, i0 gi].any fun s => s.Held.any f, ?_⟩;have hsl : ∀ s ∈ [m9 gi, i0 gi], s.Held.length ≤ 12 := fun s hs => by
  rcases T0.1 hs with rfl | hs
  ·exact (Ar5 gg hl).hlen
  rw [X9.1 hs]; exact (AS3 gg hl).hlen
 refine C6 func362 rfl ntmps362 rfl ?_;refine R9 ?_;refine A1 rfl (AB0 [0, 0, 0, 0, 0, 0, 0] 0 (nwZ w T L) ([]) rfl call290 rfl rfl (o5) (Av7 b w X T L g gi hx h0 gg hl) F4) ?_;refine R2 ?_;refine A1 rfl (AB0 [0, 0, 0, 0, 0, 0, 0] 0 (nwZ w T L) ([]) rfl call239 rfl rfl (o5) (Af3 b w X T L g gi hx h0 gg hl) F4) ?_;refine R5 ?_;refine F8 [(2, _), (3, _), (4, _), (21, _), (22, _)] _ (fun (i : Nat) => i ≤ 2 ∧ ([m9 gi, i0 gi].any fun s => s.Held.any f) = (([m9 gi, i0 gi].drop i).any fun s => s.Held.any f)) (fun i => []) (fun i => [(23, AV.int i)]) (fun i => 2 - i) (0) ?_ (H0 A4) ?_
 ·exact zq8
 intro i hinv;have hinv0 := hinv;refine zK ?_ ?_
 ·intro h24 k24;have hlt : i < 2 := (by simp only [W7] at k24; omega);obtain ⟨s, hs⟩ := B3 (show i < [m9 gi, i0 gi].length from hlt);have hs12 := hsl s (C2 hs);have hs2 : ([m9 gi, i0 gi].map E9.cs)[i]? = some s.cs := O1 hs;refine R5 ?_;refine A1 rfl (Ac0 rfl AC6 M2 zA zA qz8 (by rw [AA4]; exact hs2)) ?_;refine R2 ?_;intro b12;refine R10 ?_;refine F8 [(2, _), (3, _), (4, _), (12, _), (21, _), (22, _), (23, _), (24, _), (25, _), (26, _), (27, _), (28, _), (29, _)] _ (fun (j : Nat) => j ≤ s.Held.length ∧ s.Held.any f = (s.Held.drop j).any f) (fun j => []) (fun j => [(30, AV.int j)]) (fun j => s.Held.length - j) (0) ?_ (H0 A4) ?_
  ·exact zq8
  intro j hinv;have hinv1 := hinv;refine zK ?_ ?_
  ·intro h31 k31;have hlt1 : j < s.Held.length := (by simpa using h31);obtain ⟨y, hh⟩ := B3 hlt1;refine R5 ?_;refine A1 rfl (zX hh) ?_;refine R2 ?_;intro b14;refine R12 ?_;refine J6 rfl (fun hc => zG rfl call323 (BJ8 _ _) zS) ?_;refine R6 ?_;refine AC2 rfl rfl (Z4 rfl rfl rfl) (fun hc => zG rfl call337 (CJ6 _ _) zS) ?_;refine zC ?_ ?_
   ·intro h52;have hyes : ([m9 gi, i0 gi].any fun s => s.Held.any f) = true := List.any_eq_true.2 ⟨s, C2 hs, List.any_eq_true.2 ⟨y, C2 hh, by rw [hf]; exact h52⟩⟩;rw [hyes];refine R5 ?_;exact G8 [2, 2, 2, 2, 2, 2, 2] 2 (nwZ w T L) () (trivial) rfl B8 M9
   intro h52;refine R5 ?_;refine G5 j (j + 1) ?_ ?_ (S4 1 A4)
   ·exact ⟨by omega, by rw [hinv1.2, J7 hh, Aj8, show f y = false by (rw [hf]; exact h52)]; rfl⟩
   omega
  intro h31 k31;have hge1 : s.Held.length ≤ j := (by simpa using h31);refine R5 ?_;refine G5 i (i + 1) ?_ ?_ (S4 1 A4)
  ·exact ⟨by omega, by rw [hinv0.2, J7 hs, Aj8, hinv1.2, n5 hge1]; rfl⟩
  omega
 intro h24 k24;have hge : 2 ≤ i := (by simp only [W7] at k24; omega);rw [hinv.2, n5 (show [m9 gi, i0 gi].length ≤ i from hge)];refine R6 ?_;exact G8 [0, 0, 0, 0, 0, 0, 0] 0 (nwZ w T L) () (trivial) rfl B8 M9
theorem Ao4 (b : Nat) (w : D1) (X : WX) (T : List (Value × Value)) (L : List Value) (g : Int) (gi : D0) (hx : w.Groups[g.toNat]? = some gi) (h0 : 0 ≤ g) (hg : WG gi) : L7 243 [AV.ptr b 0, AV.int g] (WB b w X T L) (fun v : D0 => WG v) (fun v => WB b (m3 w g.toNat v) X T L) (fun _ => AV.tup []) := by
 have hgl := (G2.1 hx).1;refine C6 func243 rfl ntmps243 rfl ?_;refine R6 ?_;refine zL [2] ?_;refine J5 [(0, _), (1, _)] _ (fun (r : Nat) (v : D0) => r ≤ 3 ∧ WG v) (fun r v => [.arr X.gr 93 3 ((w.Groups.set g.toNat v).map D0.cs)]) (fun r v => [(4, AV.int r)]) (fun r v => 3 - r) (0) (gi) ?_ (K5 (by (rw [BZ6 hx]; rfl)) A4) ?_
 ·exact ⟨E2 _, hg⟩
 intro r v hinv;have hvs := BB7 hinv.2.good;refine zK ?_ ?_
 ·intro h10 k10;refine R11 ?_;refine A1 rfl (I3 0 rfl H8 E7 zA rfl zA qz8 AL4) ?_;refine A1 rfl (w5 0 rfl zA rfl P5 E7 qz82 D4) ?_;refine R1 ?_;refine zF rfl call282 (DB0 v r qz8) F4 ?_;refine R4 ?_;intro b5;refine zC ?_ ?_
  ·intro h26;refine zq148 ?_;refine R6 ?_;refine G0 r v (r + 1) ((AO4 v r).1) ?_ ?_ (Le.trans (B4 [0, 0] rfl) (C7 1 (by first | rfl | (rw [← AJ6, Bh0]; rfl)) A4))
   ·exact ⟨by omega, wg_copy hinv.2 h26⟩
   omega
  intro h26;refine R6 ?_;refine G0 r v (r + 1) (v) ?_ ?_ (Le.trans (B4 [0, 0] rfl) (C7 1 (by first | rfl | (rw [← AJ6, Bh0]; rfl)) A4))
  ·exact ⟨by omega, hinv.2⟩
  omega
 intro h10 k10;refine R9 ?_;refine A1 rfl (I3 0 rfl H8 E7 zA rfl zA qz8 AL4) ?_;refine A1 rfl (w5 0 rfl zA rfl P5 E7 qz82 D4) ?_;refine zF rfl call283 (Cs8 v qz8) I4 ?_;refine R4 ?_;intro b7;refine zC ?_ ?_
 ·intro h47;refine zq148 ?_;refine R1 ?_;exact G8 [2, 2, 1, 1, 1, 1, 1] 1 (nwZ w T L) (((AT9 v).1)) ((by first | exact wg_adv hinv.2 h47 | exact hinv.2)) rfl (by first | rfl | (unfold WB m3; dsimp only; rw [← AJ6, Bh0]; rfl)) (j9 rfl D4 z8)
 intro h47;refine R1 ?_;exact G8 [2, 2, 1, 1, 1, 1, 1] 1 (nwZ w T L) (v) ((by first | exact wg_adv hinv.2 h47 | exact hinv.2)) rfl (by first | rfl | (unfold WB m3; dsimp only; rw [← AJ6, Bh0]; rfl)) (j9 rfl D4 z8)
theorem Ao5 (b : Nat) (w : D1) (X : WX) (T : List (Value × Value)) (L : List Value) (g : Int) (r : N9) (gi : D0) (hx : w.Groups[g.toNat]? = some gi) (h0 : 0 ≤ g) (hg : WG gi) (hr : r.size ≤ 1000) (hk : Aq8 r) : L7 237 [AV.ptr b 0, AV.int g, AV.agg r.cs] (WB b w X T L) (fun v : D0 × Bool => WG v.1) (fun v => WB b (m3 w g.toNat v.1) X T L) (fun v => AV.bool v.2) := by
 have hgl := (G2.1 hx).1;have hvs := BB7 hg.good;refine C6 func237 rfl ntmps237 rfl ?_;refine R3 ?_;intro b5;refine R3 ?_;refine V9 _ 15 (.pure 0 (.pure 1 (.pure 2 (.pure 3 (.pure 4 (.pure 5 (.pure 6 (.pure 7 (.pure 8 (.pure 9 (.pure 10 (.pure 11 (.pure 12 (.e1 13 (.e1 14 .nil))))))))))))))) E6 E6 rfl (S1 8) ?_;refine R6 ?_;refine M0 rfl rfl rfl (fun ext => I3 3 rfl H8 E7 (A0 rfl) rfl (A0 rfl) qz8 AL4) ?_;refine M0 rfl rfl rfl (fun ext => w5 3 rfl (A0 rfl) rfl P5 E7 qz5 D4) ?_;refine R1 ?_;refine M0 rfl rfl rfl (fun ext => A6 rfl call278 rfl (Cg6 gi r qz8 qz8) F4) ?_;refine R4 ?_;refine J8 rfl rfl rfl (AC5 8 <| X5 rfl zeroValue93 rfl) (fun a _ => qz4) ?_;intro b7 _;refine R1 ?_;refine AK5 rfl rfl rfl (o7 8 rfl rfl (A0 rfl) (A0 rfl) (i3 _) rfl E7 rfl) (fun a _ => qz4) ?_;intro _ _;refine R9 ?_;refine A3 ?_ ?_
 ·intro h23;rw [show (AK0 gi r).2 = false by simpa using h23] at *;refine R5 ?_;exact G8 [1, 1, 1, 1, 1, 1, 1] 2 (nwZ w T L) ((gi, false)) ((by first | exact hg | exact ok34)) rfl qz173 M9
 intro h23;have hpo : (AK0 gi r).2 = true := Br6;have hld : 0 ≤ gi.Lead := DY0 hpo;have hwp := wg_put hg hld hk hpo;have hsp := Ao4 b (m3 w g.toNat (AK0 gi r).1) X T L g (AK0 gi r).1 (B1 hx) h0 hwp;refine R2 ?_;refine M6 8 E6 E6 rfl ?_;refine R7 ?_;refine B7 rfl rfl (I3 3 rfl H8 E7 (A0 rfl) rfl (A0 rfl) qz8 AL4) ?_;refine R1 ?_;refine AB5 3 rfl rfl rfl (A0 rfl) (A0 rfl) (i3 _) rfl E7 rfl AL4 ?_;refine R2 ?_;simp only [← AJ6];refine R3 ?_;refine L3 [1, 1, 1, 1, 1, 1, 1] 2 7 (nwZ w T L) (fun zz => nwZ w T L) rfl rfl rfl rfl call243 rfl rfl (hsp) F4 (fun a => N3) ?_;intro x34 ok34;refine R6 ?_;exact G8 [0, 0, 0, 0, 0, 0, 0] 2 (nwZ w T L) ((x34, true)) ((by first | exact hg | exact ok34)) rfl qz173 M9
theorem agg_w {xs ys : List AV} (hl : xs.length = ys.length) (h : ∀ (i : Nat) (x y : AV), xs[i]? = some x → ys[i]? = some y → ∀ R v, x.den R v → y.den R v) (R : H2) (v : Value) (hv : (AV.agg xs).den R v) : (AV.agg ys).den R v := by
  obtain ⟨vs, e, hl2, hd⟩ := hv;refine ⟨vs, e, hl2.trans hl, fun i u y hu hy => ?_⟩;have hi : i < xs.length := by rw [hl]; exact (G2.1 hy).1
  obtain ⟨h1, h2⟩ := hd i u _ hu (P2 hi);exact ⟨h i _ y (P2 hi) hy _ _ h1, h2⟩
theorem Av8 {k t tm l : Int} {y : Bool} (R : H2) (v : Value) (h : (AV.agg [AV.int k, AV.int t, AV.int tm, AV.int l, AV.nils, AV.nils, AV.bool y]).den R v) : (AV.agg (N9.cs ⟨k, t, tm, l, [], [], y⟩)).den R v := by
  refine agg_w (xs := [AV.int k, AV.int t, AV.int tm, AV.int l, AV.nils, AV.nils, AV.bool y]) (ys := N9.cs ⟨k, t, tm, l, [], [], y⟩) rfl (fun i x z hx hz => ?_) R v h;rcases i with _ | _ | _ | _ | _ | _ | _ | i
  all_goals first
    | (injection hx with hx; injection hz with hz; subst hx; subst hz; first | exact fun _ _ h => h | exact CW5)
    | (cases hx)
theorem third {node : Int} {n : Nat} (hn : 0 ≤ node ∧ node < 3 * (n : Int)) {q m : Int} (hq : Int.tdiv node 3 = q) (hm : Int.tmod node 3 = m) : 0 ≤ q ∧ q < n ∧ 0 ≤ m ∧ m < 3 ∧ node = 3 * q + m := by
  rw [Int.tdiv_eq_ediv_of_nonneg hn.1] at hq;rw [Int.tmod_eq_emod_of_nonneg hn.1] at hm;omega
theorem Cc4 (b : Nat) (w : D1) (X : WX) (T : List (Value × Value)) (L : List Value) (node : Int) (hw : WI w) (hn : 0 ≤ node ∧ node < 3 * (w.Groups.length : Int)) : L7 207 [AV.ptr b 0, AV.int node] (WB b w X T L) (fun v : D1 × Bool => WI v.1 ∧ WS w v.1 ∧ v.1.Txns = w.Txns ∧ v.1.Looks = w.Looks) (fun v => WB b v.1 X T L) (fun v => AV.bool v.2) := by
 obtain ⟨q, hq⟩ : ∃ q : Int, Int.tdiv node 3 = q := ⟨_, rfl⟩;obtain ⟨m, hm⟩ : ∃ m : Int, Int.tmod node 3 = m := ⟨_, rfl⟩;obtain ⟨h0, hql, hm0, hm3, hnq⟩ := third hn hq hm;obtain ⟨gi, hx⟩ := B3 (show q.toNat < w.Groups.length by omega);have hgi := hw.groups gi (C2 hx);have hvs := BB7 hgi.good;have hng := hw.n;have hgl := (G2.1 hx).1;obtain ⟨lo, hlx⟩ := B3 (show q.toNat < w.Locks.length by rw [hw.locks.1]; omega);obtain ⟨pr, hpx⟩ := B3 (show q.toNat < w.Promised.length by rw [hw.promised.1]; omega);have hll := (G2.1 hlx).1;have hpl := (G2.1 hpx).1;obtain ⟨c, hcx⟩ := B3 (show node.toNat < w.Clocks.length by rw [hw.clocks.1]; omega);have hcg : AB6 c = true := by
  have h9 := hw.clocks.2 c (C2 hcx);unfold AB6 within; rw [D8, H5, H5]; exact h9
 have hnow : M.j6 w.Now = true := by unfold M.j6 within; rw [D8, H5, H5]; exact hw.now
 have hsp9 : -1000000 ≤ (AK9 c w.Now).High ∧ (AK9 c w.Now).High ≤ 1000000 := by
  have h9 := hw.clocks.2 c (C2 hcx);have h8 := hw.now;show -1000000 ≤ w.Now + c.Off + 5 ∧ w.Now + c.Off + 5 ≤ 1000000
  omega
 have hwq : IntKind.i64.wrap q = q := BU2 qz8;refine C6 func207 rfl ntmps207 rfl ?_;refine R7 ?_;refine A1 rfl (w_quo rfl zA J4 qz3) ?_;refine R3 ?_;simp only [hq, hwq];refine R7 ?_;refine A1 rfl (I3 2 rfl H8 E7 zA rfl zA qz8 AL4) ?_;refine A1 rfl (w5 2 rfl zA rfl P5 E7 qz5 D4) ?_;refine R1 ?_;refine A1 rfl (Bc3 rfl zA J4 qz3) ?_;simp only [hm];refine zF rfl call236 (Cg4 gi m qz8) F4 ?_;refine R4 ?_;intro b6;refine zC ?_ ?_
 ·intro h25;have hpo : (j7 gi m).2 = false := (by simpa using h25);refine R5 ?_;exact G8 [1, 1, 1, 1, 1, 1, 1] 1 (nwZ w T L) ((w, false)) (qz142) rfl B8 M9
 intro h25;have hpo : (j7 gi m).2 = true := (by simpa using h25);have hwg := wg_elect hgi hpo;have heg := CH3 hpo;have hld : 0 ≤ (j7 gi m).1.Lead := (by rw [heg.2.2.1]; exact hm0);have hgg2 : (w.Groups.set q.toNat (j7 gi m).1)[q.toNat]? = some (j7 gi m).1 := B1 hx;have h1 := AF7 hw (i := q.toNat) hwg;have h2 := Co9 h1.1 (i := q.toNat) (l := []) ⟨E2 _, fun x hx => (by cases hx)⟩;have h3 := DF2 h2.1 (i := q.toNat) (p := 0) ⟨Int.le_refl 0, D4⟩;have hfk := Af3 b (Ak1 (An2 (m3 w q.toNat (j7 gi m).1) q.toNat []) q.toNat 0) X T L q _ hgg2 h0 hwg.good hld;have hsk := BS8 b (Ak1 (An2 (m3 w q.toNat (j7 gi m).1) q.toNat []) q.toNat 0) X T L node c hcx hn.1 hcg hnow;have hfl := (AS3 hwg.good hld).floor;have hpk := Ao5 b (Ak1 (An2 (m3 w q.toNat (j7 gi m).1) q.toNat []) q.toNat 0) X T L q ⟨4, 0, AA7 1 (AA7 ((i0 (j7 gi m).1).Floor + 1) ((AK9 c w.Now).High + 10)), 0, [], [], false⟩ _ hgg2 h0 hwg (show (0 : Nat) ≤ 1000 from by decide) (fun w9 hw9 => by cases hw9);refine R2 ?_;refine M6 8 E6 E6 rfl ?_;refine R7 ?_;refine B7 rfl rfl (I3 3 rfl H8 E7 zA rfl zA qz8 AL4) ?_;refine R1 ?_;refine AB5 3 rfl rfl rfl zA zA (i3 _) rfl E7 rfl AL4 ?_;refine R9 ?_;refine A1 rfl (I3 4 rfl U7 AA5 zA rfl zA qz8 AL4) ?_;refine AB5 4 rfl rfl rfl zA (X1 (sz := 3)) (m4 _ _) rfl AA5 rfl AL4 ?_;refine R9 ?_;refine A1 rfl (I3 5 rfl H7 F2 zA rfl zA qz8 AL4) ?_;refine AB5 5 rfl rfl rfl zA J4 (W9 _ _) rfl F2 rfl AL4 ?_;refine R2 ?_;refine G6 (show _ = Go.AV.Own.box b6 93 (j7 gi m).1.cs :: WB b (Ak1 (An2 (m3 w q.toNat (j7 gi m).1) q.toNat []) q.toNat 0) X T L from (by unfold WB Ak1 An2 m3; dsimp only; rw [AJ6, AJ6, AJ6]; rfl)) ?_;refine R5 ?_;refine A1 rfl (AB0 [1, 1, 1, 1, 1, 1, 1] 1 (nwZ w T L) ([]) rfl call239 rfl rfl (o5) (hfk) F4) ?_;refine R2 ?_;refine A1 rfl (AB0 [1, 1, 1, 1, 1, 1, 1] 1 (nwZ w T L) ([]) rfl call240 rfl rfl (o5) (hsk) F4) ?_;refine zF rfl call238 (Ch3 (i0 (j7 gi m).1) (AK9 c w.Now) qz8 qz8) F4 ?_;refine R1 ?_;refine L3 [1, 1, 1, 1, 1, 1, 1] 1 7 (nwZ w T L) (fun zz => nwZ w T L) rfl rfl rfl rfl call237 rfl rfl (hpk) (A2 zA (A2 zA (A2 (AY5 zA Av8) B0))) (fun a => N3) ?_;intro x58 ok58;refine R6 ?_;exact G8 [0, 0, 0, 0, 0, 0, 0] 1 (nwZ w T L) ((m3 (Ak1 (An2 (m3 w q.toNat (j7 gi m).1) q.toNat []) q.toNat 0) q.toNat x58.1, true)) (qz142) rfl B8 M9
theorem part_ok {l : List H3} (h : AY3 l) (t : Int) (of : Bool) : AY3 (Ae4 l t of) := by
  unfold Ae4;exact ⟨L4 (List.length_filter_le _ _) h.1, fun x hx => h.2 x (List.mem_filter.1 hx).1⟩
theorem Bd1 {α : Type} {g : α → AV} : ∀ {v : List α}, (v.map fun l => [g l]).flatten = v.map g
  | [] => rfl
  | x :: v => by rw [j4, Ac1, Bd1, j4]; rfl
theorem flat1 {α : Type} {g : α → AV} {v : List α} {i : Nat} {x : α} (h : v[i]? = some x) : (v.map fun l => [g l]).flatten[((i : Int)).toNat * 1]? = some (g x) := by
  rw [Bd1, AA4, Nat.mul_one, Z5, h]; rfl
def Aa5 (w : D1) (v : List (List H3)) : D1 := { w with Locks := v }
theorem Bg2 (b : Nat) (w : D1) (X : WX) (T : List (Value × Value)) (L : List Value) (t : Int) (hw : WI w) : L7 286 [AV.ptr b 0, AV.int t] (WB b w X T L) (fun v : List (List H3) => v.length = w.Locks.length ∧ ∀ l ∈ v, AY3 l) (fun v => WB b (Aa5 w v) X T L) (fun _ => AV.tup []) := by
 have hng := hw.n;have hlk := hw.locks;refine C6 func286 rfl ntmps286 rfl ?_;refine R11 ?_;refine zL [3] ?_;refine J5 [(0, _), (1, _), (10, _)] _ (fun (i : Nat) (v : List (List H3)) => i ≤ w.Locks.length ∧ v.length = w.Locks.length ∧ ∀ l ∈ v, AY3 l) (fun i v => [.arr X.lo 96 1 (v.map fun l => [AV.list 3 (l.map H3.cs)])]) (fun i v => [(11, AV.int i)]) (fun i v => w.Locks.length - i) (0) (w.Locks) ?_ (K5 B8 A4) ?_
 ·exact ⟨E2 _, rfl, hlk.2⟩
 intro i v hinv;refine zK ?_ ?_
 ·intro h12 k12;have hlt : i < w.Locks.length := (by simpa using h12);obtain ⟨l, hlx⟩ := B3 (show i < v.length by rw [hinv.2.1]; exact hlt);have hlo := hinv.2.2 l (C2 hlx);have hl60 := hlo.1;refine R8 ?_;refine M6 17 E6 E6 rfl ?_;refine R12 ?_;refine B7 rfl rfl (I3 0 rfl U7 AA5 zA rfl zA qz8 AL4) ?_;refine B7 rfl rfl (AL8 0 rfl zA rfl isAgg96 (flat1 (g := fun l => AV.list 3 (l.map H3.cs)) hlx)) ?_;refine R1 ?_;refine B7 rfl rfl (zG rfl call322 (DB7 l t false qz8) Ck6) ?_;refine B7 rfl rfl (I3 0 rfl U7 AA5 zA rfl zA qz8 AL4) ?_;refine R1 ?_;refine AB5 0 rfl rfl rfl zA zA (m4 _ _) rfl AA5 rfl AL4 ?_;refine R5 ?_;refine G0 i v (i + 1) (v.set i (Ae4 l t false)) ?_ ?_ (Le.trans (B4 [0] rfl) (K5 (by (rw [AJ6]; rfl)) A4))
  ·exact ⟨by omega, by rw [Z1]; exact hinv.2.1, AS2 hinv.2.2 (part_ok hlo t false)⟩
  omega
 intro h12 k12;refine R1 ?_;exact G8 [1, 1, 1, 0, 0, 0, 0] 0 (nwZ w T L) (v) (hinv.2) rfl B8 (j9 rfl D4 z8)
theorem AP7 {T X : Type} {ocs : T → X → List AV} {l : List T} {xs : List X} {i : Nat} {p p' : T} {x : X} (hp : l[i]? = some p) (hx : xs[i]? = some x) : J9 ocs (l.set i p') xs = (J9 ocs l xs).set i (ocs p' x) := by
  rw [← DH9 (p' := p') hp hx, AU3 hp hx];have ht := AT3 (ocs := ocs) hp hx;rw [List.set_append_right _ _ qz8, ht, Nat.sub_self, BI3]
theorem Am6 {T X : Type} {ow : T → X → List Go.AV.Own} : ∀ {l : List T} {xs : List X} {i : Nat} {p p' : T}, l[i]? = some p → (∀ x, ow p' x = ow p x) → nin ow (l.set i p') xs = nin ow l xs
  | [], _, _, _, _, h, _ => by simp at h
  | q :: l, [], i, _, _, h, _ => by cases i <;> rfl
  | q :: l, y :: xs, 0, p, p', h, he => by
    simp at h; subst h;show ow p' y ++ nin ow l xs = ow q y ++ nin ow l xs
    rw [he]
  | q :: l, y :: xs, i + 1, p, p', h, he => by
    show ow q y ++ nin ow (l.set i p') xs = ow q y ++ nin ow l xs
    rw [Am6 (l := l) Aj4 he]
def Bu4 (t : B5) : B5 := { t with Dead := true }
def Bu5 (w : D1) (t : Int) : D1 := match w.Txns[(t - 1).toNat]? with
  | some x => AO0 w (t - 1).toNat (Bu4 x)
  | none => w
theorem died_wi {w : D1} (hw : WI w) (t : Int) : WF w (Bu5 w t) := by
  unfold Bu5;split
  · rename_i x hx
    have h := hw.txns.2 x (C2 hx);have h2 := BF8 hw (i := (t - 1).toNat) (t := Bu4 x) ⟨h.terms, h.ops, h.got, h.span⟩;exact zq142
  · exact WF.refl hw
theorem BE1 {w : D1} (hw : WI w) {v : List (List H3)} (hv : v.length = w.Locks.length ∧ ∀ l ∈ v, AY3 l) : WI (Aa5 w v) ∧ WS w (Aa5 w v) :=
  ⟨⟨hw.n, hw.clocks, hw.cuts, ⟨hv.1.trans hw.locks.1, hv.2⟩, hw.promised, hw.groups, hw.txns, hw.looks, hw.now, hw.count⟩, ⟨rfl, rfl, rfl, rfl, rfl, rfl⟩⟩
theorem BE2 {w : D1} (hw : WI w) {v : List (List H3)} (hv : v.length = w.Locks.length ∧ ∀ l ∈ v, AY3 l) : WF w (Aa5 w v) := ⟨(BE1 hw hv).1, (BE1 hw hv).2, rfl, rfl⟩
theorem BM3 (b : Nat) (w : D1) (X : WX) (T : List (Value × Value)) (L : List Value) (t : Int) (hw : WI w) (hT : T.length = w.Txns.length) (ht : 1 ≤ t ∧ t ≤ 1000000) : L7 319 [AV.ptr b 0, AV.int t] (WB b w X T L) (fun v : D1 => WF w v) (fun v => WB b v X T L) (fun _ => AV.tup []) := by
 have hd := died_wi hw t;have hfr := Bg2 b (Bu5 w t) X T L t hd.wi;obtain ⟨W', hW⟩ : ∃ W' : D1, Bu5 w t = W' := ⟨_, rfl⟩;rw [hW] at hfr hd;refine C6 func319 rfl ntmps319 rfl ?_;refine zK ?_ ?_
 ·intro h11 k11;have hlt : (t - 1).toNat < w.Txns.length := (by simp only [U3 hT] at k11; omega);obtain ⟨tx, htx⟩ := B3 hlt;obtain ⟨y, hy⟩ := B3 (show (t - 1).toNat < T.length by omega);have hW1 : W' = AO0 w (t - 1).toNat (Bu4 tx) := (by rw [← hW]; unfold Bu5; rw [htx]);refine R8 ?_;refine A1 rfl (I3 5 rfl N0 T5 zA rfl zA qz8 (by rw [U3 hT]; omega)) ?_;refine A1 rfl (L5 5 rfl M1 rfl T7 zA rfl rfl qz2) ?_;refine Z7 5 rfl rfl rfl zA Af6 (AX3 _) rfl T7 qz2 rfl ?_;refine R1 ?_;refine G6 (show _ = WB b W' X T L from qz138) ?_;refine R3 ?_;refine zq30 ?_;intro x23 ok23;exact zq108
 intro h11 k11;have hW1 : W' = w := (by rw [← hW]; unfold Bu5; rw [AT6 (by simp only [U3 hT] at k11; omega)]);refine R1 ?_;refine G6 (show _ = WB b W' X T L from qz138) ?_;refine R3 ?_;refine zq30 ?_;intro x23 ok23;exact zq108
theorem Bq0 {α : Type} {g : α → AV} {v : List α} {k : Int} {x : α} (h : v[k.toNat]? = some x) : (v.map fun l => [g l]).flatten[k.toNat * 1]? = some (g x) := by
  rw [Bd1, Nat.mul_one, Z5, h]; rfl
theorem AZ7 {w : D1} {T : List (Value × Value)} {L : List Value} {i : Nat} {tx : B5} {y : Value × Value} (hp : w.Txns[i]? = some tx) (hy : T[i]? = some y) : (nwZ w T L).Perm (B5.ow tx y ++ (nin B5.ow (w.Txns.eraseIdx i) (T.eraseIdx i) ++ nin B9.ow w.Looks L)) := by
  rw [← m6];exact (AX4 (ow := B5.ow) hp hy).append_right _
theorem Cc5 (b : Nat) (w : D1) (X : WX) (T : List (Value × Value)) (L : List Value) (g t : Int) (tx : B5) (y : Value × Value) (n : Int) (gi : D0) (htx : w.Txns[(t - 1).toNat]? = some tx) (hy : T[(t - 1).toNat]? = some y) (hT : T.length = w.Txns.length) (ht : 1 ≤ t ∧ t ≤ 1000000) (hg0 : 0 ≤ g) (hn : tx.Terms[g.toNat]? = some n) (hx : w.Groups[g.toNat]? = some gi) : L7 342 [AV.ptr b 0, AV.int g, AV.int t] (WB b w X T L) (fun _ : Unit => True) (fun _ => WB b w X T L) (fun _ => AV.bool ((n != 0) && (n != gi.Term))) := by
  have htl := (G2.1 htx).1;have hgl := (G2.1 hx).1;have hnl := (G2.1 hn).1;refine C6 func342 rfl ntmps342 rfl ?_;refine R5 ?_;refine zq9 ?_;refine R8 ?_;refine A1 rfl (I3 5 rfl N0 T5 zA rfl zA qz8 Aw0) ?_;refine A1 rfl (L5 5 rfl M1 rfl Ad1 zA rfl rfl qz2) ?_;refine A1 rfl (N5 5 rfl zA rfl isAgg28 qz2 rfl) ?_;refine R1 ?_;refine A1 rfl (I3 8 rfl H7 F2 zA rfl zA qz8 Aw0) ?_;refine A1 rfl (AL8 8 rfl zA rfl Q4 (Bq0 (g := AV.int) hn)) ?_;refine R3 ?_;refine zq102 ?_;refine R11 ?_;refine J6 rfl (fun hc => I3 2 rfl H8 E7 (A9 rfl hc) rfl (A9 rfl hc) qz8 Aw0) ?_;refine J6 rfl (fun hc => L5 2 rfl Z0 rfl F2 (A9 rfl hc) rfl rfl qz5) ?_;refine J6 rfl (fun hc => N5 2 rfl (A9 rfl hc) rfl Q4 qz5 rfl) ?_;refine R5 ?_;exact G8 [0, 0, 0, 0, 0, 0, 0] 0 (nwZ w T L) () (trivial) rfl B8 M9
end Go.PQ