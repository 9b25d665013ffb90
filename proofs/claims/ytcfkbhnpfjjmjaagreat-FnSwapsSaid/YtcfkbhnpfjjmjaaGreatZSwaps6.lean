/- Texts of the claim, part 6. -/
import Derived.Test.YtcfkbhnpfjjmjaaGreatZSwaps5
set_option linter.unusedVariables false
set_option linter.unusedSimpArgs false
set_option maxRecDepth 100000
set_option maxHeartbeats 4000000
namespace Go.M
open Go.AV
def orderR (o : AI9) : Bool := goodRec ⟨1, o.Txn, 1, 0, o.Reads, o.Writes, false⟩
theorem BK3 {n : Int} : ∀ {l : List Int} {i : Nat}, (∀ j x, j < i → l[j]? = some x → x < n) → i ≤ l.length → (∀ x, l[i]? = some x → ¬ x < n) →
    (∀ x, l[i]? = some x → x = n → putIb l n = l) ∧ ((∀ x, l[i]? = some x → x ≠ n) → putIb l n = l.take i ++ n :: l.drop i)
  | [], i, _, hi, _ => by simp at hi; subst hi; exact ⟨fun x hx => by simp at hx, fun _ => rfl⟩
  | y :: l, 0, _, _, h2 => by
    have h := h2 y rfl
    unfold putIb
    rw [if_neg h]
    refine ⟨fun x hx hn => ?_, fun hn => ?_⟩
    · simp at hx; subst hx; rw [if_pos hn]
    · rw [if_neg (hn y rfl)]; rfl
  | y :: l, i + 1, h1, hi, h2 => by
    have hy := h1 0 y qz8 rfl
    obtain ⟨k1, k2⟩ := BK3 (n := n) (l := l) (i := i) (fun j x hj hx => h1 (j + 1) x qz8 AA5) (by simpa using hi) (fun x hx => h2 x AA5)
    unfold putIb
    rw [if_pos hy]
    refine ⟨fun x hx hn => by rw [k1 x AA5 hn], fun hn => by rw [k2 fun x hx => hn x AA5]; rfl⟩
theorem CJ5 (l : List Int) (n : Int) : (putIb l n).length ≤ l.length + 1 := by
  induction l with
  | nil => simp [putIb]
  | cons y l ih =>
    unfold putIb
    split
    · rw [H6, H6]; omega
    · split <;> simp
end Go.M
namespace Go.Proofs.YtcfkbhnpfjjmjaaGreat
open Go Go.AV Go.M
attribute [local irreducible] OpW OpA OpS AWP B9 J5 C8 OpE RetOk H1 I9 Le Ev F6 J9
theorem CC2 (l : List Int) (n : Int) (hl : l.length ≤ 4194303) : B9 Tryz.prog 169 [ints l, AV.int n] (ints (putIb l n)) := by
 refine B7 Tryz.func169 rfl Tryz.ntmps169 rfl ?_
 refine R2 ?_
 refine A4 rfl (D4 rfl (P8 (sz := 1))) ?_
 refine R7 ?_
 refine E5 [(0, _), (1, _), (4, _)] _ (fun (i : Nat) => i ≤ l.length ∧ ∀ j x, j < i → l[j]? = some x → x < n) (fun (i : Nat) => []) (fun (i : Nat) => [(5, AV.int i)]) (fun (i : Nat) => l.length - i) (0) ?_ (F2 ⟨rfl, rfl, rfl, rfl, trivial⟩) ?_
 ·exact ⟨Nat.zero_le _, fun j x h => by omega⟩
 intro i hinv
 obtain ⟨x, hx⟩ := AL6 l i
 have hx0 : i < l.length → l[i]? = some x := hx
 refine R10 ?_
 refine L3 rfl (fun hc => C7 rfl B3 B4 (B1 rfl hc) (B1 rfl hc) (hx qz6) qz6) ?_
 refine R5 ?_
 refine A8 (A0 rfl) ?_ ?_
 ·intro h18
  have hb : i < l.length ∧ x < n := by simpa using h18
  refine R7 ?_
  refine AD6 ?_
  refine F3 i (i + 1) ?_ ?_ (F2 ⟨rfl, rfl, rfl, rfl, trivial⟩)
  ·exact ⟨by omega, fun j y hj hy => (Nat.lt_or_ge j i).elim (fun h => hinv.2 j y h hy) (fun h => by (obtain rfl : j = i := by omega); rw [hx0 hb.1] at hy; injection hy with hy; omega)⟩
  omega
 intro h18
 have hb : i < l.length → ¬ x < n := fun h => by simpa [h] using h18
 obtain ⟨hs1, hs2⟩ := BK3 hinv.2 hinv.1 (fun z hz => by (have hzl := (List.getElem?_eq_some_iff.1 hz).1; rw [hx0 hzl] at hz; injection hz with hz; subst hz; exact hb hzl))
 refine R11 ?_
 refine L3 rfl (fun hc => C7 rfl B3 B4 (B1 rfl hc) (B1 rfl hc) (hx qz6) qz6) ?_
 refine R5 ?_
 refine A8 (A0 rfl) ?_ ?_
 ·intro h32
  have hc : i < l.length ∧ x = n := by simpa using h32
  have he := hs1 x (hx0 hc.1) hc.2
  rw [he]
  refine R6 ?_
  exact D5 rfl (A6 rfl qz75)
 intro h32
 have hc : i < l.length → x ≠ n := fun h => by simpa [h] using h32
 have he := hs2 (fun z hz => by (have hzl := (List.getElem?_eq_some_iff.1 hz).1; rw [hx0 hzl] at hz; injection hz with hz; subst hz; exact hc hzl))
 rw [he]
 refine R3 ?_
 refine N8 rfl rfl rfl rfl B3 B4 ?_
 intro v34
 refine R2 ?_
 refine A4 rfl (j0 rfl B3 B4 (A0 rfl) (A0 rfl) qz4 qz4) ?_
 refine G0 (by' := 8) 0 rfl rfl rfl rfl B3 Tryz.type3 rfl rfl rfl rfl rfl rfl (A0 rfl) (A0 rfl) rfl (by simp only [A5, H2, N1]; omega) ?_
 intro v38_1
 refine R7 ?_
 refine G0 (by' := 8) 0 rfl rfl rfl rfl B3 Tryz.type3 rfl rfl rfl rfl rfl rfl (A0 rfl) (A0 rfl) rfl Aq1 ?_
 intro v42_2
 refine R7 ?_
 refine A4 rfl (AL4 rfl B3 B4 (A0 rfl) (A0 rfl) qz4 qz4) ?_
 refine G0 (by' := 8) 0 rfl rfl rfl rfl B3 Tryz.type3 rfl rfl rfl rfl rfl rfl (A0 rfl) (A0 rfl) rfl Aq1 ?_
 intro v47_3
 refine R3 ?_
 refine AP6 0 4 rfl rfl ?_
 exact D5 rfl (A6 rfl qz75)
end Go.Proofs.YtcfkbhnpfjjmjaaGreat
namespace Go.M
open Go.AV
theorem Bs1 {l ks : List Str} {i : Nat} {k : Str} (h : ks[i]? = some k) : partsL l (ks.take (i + 1)) = putIb (partsL l (ks.take i)) (partW l k) := by
  unfold partsL
  rw [List.take_add_one, h, List.foldl_append]; rfl
theorem BK4 (l : List Str) : ∀ (ks : List Str), (partsL l ks).length ≤ ks.length := by
  have key : ∀ (ks : List Str) (a : List Int), (ks.foldl (fun a k => putIb a (partW l k)) a).length ≤ a.length + ks.length := by
    intro ks
    induction ks with
    | nil => intro a; exact Nat.le_refl _
    | cons k ks ih =>
      intro a
      have h1 := ih (putIb a (partW l k))
      have h2 := CJ5 a (partW l k)
      rw [List.foldl_cons, H6]; omega
  intro ks
  have := key ks []
  unfold partsL; simpa using this
end Go.M
namespace Go.Proofs.YtcfkbhnpfjjmjaaGreat
open Go Go.AV Go.M
attribute [local irreducible] OpW OpA OpS AWP B9 J5 C8 OpE RetOk H1 I9 Le Ev F6 J9 V9
theorem Ao9 (r : List Str) (w : List A9) (hr : r.length ≤ 400000) (hw : w.length ≤ 400000) : B9 Tryz.prog 150 [strs r, AV.list 3 (w.map A9.cs)] (strs (keysI (r ++ M2 w))) := by
  rw [BU2]
  exact K2 (Bi5 r w hr hw) fun v _ => J3 (List.mem_singleton.2 rfl) F5
theorem Ap0 (l ks : List Str) (hk : ks.length ≤ 1000000) : B9 Tryz.prog 149 [strs l, strs ks] (ints (partsL l ks)) := by
 refine B7 Tryz.func149 rfl Tryz.ntmps149 rfl ?_
 refine R2 ?_
 refine A4 rfl (D4 rfl (P8 (sz := 1))) ?_
 refine R3 ?_
 refine A4 rfl (D4 rfl (P8 (sz := 1))) ?_
 refine R9 ?_
 refine E5 [(0, _), (4, _), (8, _), (9, _)] _ (fun (i : Nat) => i ≤ ks.length) (fun (i : Nat) => []) (fun (i : Nat) => [(5, ints (partsL l (ks.take i))), (10, AV.int i)]) (fun (i : Nat) => ks.length - i) (0) ?_ (F2 ⟨rfl, rfl, rfl, rfl, rfl, rfl, trivial⟩) ?_
 ·exact Nat.zero_le _
 intro i hinv
 refine R5 ?_
 refine A8 (A0 rfl) ?_ ?_
 ·intro h11
  have k11 := of_decide_eq_true h11; try simp only [A5] at k11
  have hlt : i < ks.length := by omega
  obtain ⟨x, hx⟩ := get_some hlt
  have hle := BK4 l (ks.take i)
  rw [H2] at hle
  refine R5 ?_
  refine A4 rfl (C7 rfl F7 K1 (A0 rfl) (A0 rfl) hx qz4) ?_
  refine R7 ?_
  refine A4 rfl (B2 rfl Tryz.call170 rfl (AF3 _ _) (A1 (A0 rfl) (A1 (A0 rfl) A7))) ?_
  refine A4 rfl (B2 rfl Tryz.call169 rfl (CC2 _ _ qz8) (A1 (A0 rfl) (A1 (A0 rfl) A7))) ?_
  refine R6 ?_
  refine F3 i (i + 1) ?_ ?_ (F2 ⟨(congrArg (fun z => some (ints z)) (Bs1 hx).symm), rfl, rfl, rfl, rfl, rfl, trivial⟩)
  ·exact qz8
  omega
 intro h11
 have k11 := of_decide_eq_false h11; try simp only [A5] at k11
 have hge : ks.length ≤ i := by omega
 rw [List.take_of_length_le hge]
 refine R7 ?_
 exact D5 rfl (A6 rfl B0)
end Go.Proofs.YtcfkbhnpfjjmjaaGreat
namespace Go.M
open Go.AV
end Go.M
namespace Go.Proofs.YtcfkbhnpfjjmjaaGreat
open Go Go.AV Go.M
attribute [local irreducible] OpW OpA OpS AWP B9 J5 C8 OpE RetOk H1 I9 Le Ev F6 J9 V9 Int.tmod IntKind.wrap bandI
end Go.Proofs.YtcfkbhnpfjjmjaaGreat
namespace Go.M
open Go.AV
end Go.M
namespace Go.Proofs.YtcfkbhnpfjjmjaaGreat
open Go Go.AV Go.M
attribute [local irreducible] OpW OpA OpS AWP B9 J5 C8 OpE RetOk H1 I9 Le Ev F6 J9 V9 Int.tmod IntKind.wrap bandI
end Go.Proofs.YtcfkbhnpfjjmjaaGreat
namespace Go.M
open Go.AV
end Go.M
namespace Go.Proofs.YtcfkbhnpfjjmjaaGreat
open Go Go.AV Go.M
attribute [local irreducible] OpW OpA OpS AWP B9 J5 C8 OpE RetOk H1 I9 Le Ev F6 J9 V9 Int.tmod IntKind.wrap bandI
end Go.Proofs.YtcfkbhnpfjjmjaaGreat
namespace Go.M
open Go.AV
end Go.M
namespace Go.Proofs.YtcfkbhnpfjjmjaaGreat
open Go Go.AV Go.M
attribute [local irreducible] OpW OpA OpS AWP B9 J5 C8 OpE RetOk H1 I9 Le Ev F6 J9 V9 Int.tmod IntKind.wrap bandI
end Go.Proofs.YtcfkbhnpfjjmjaaGreat
namespace Go.M
open Go.AV
end Go.M
namespace Go.Proofs.YtcfkbhnpfjjmjaaGreat
open Go Go.AV Go.M
attribute [local irreducible] OpW OpA OpS AWP B9 J5 C8 OpE RetOk H1 I9 Le Ev F6 J9 V9 Int.tmod IntKind.wrap bandI
theorem m4 (l : List A9) (w : A9) (hl : l.length ≤ 4194303) (ha : adj wLess l = true) : B9 Tryz.prog 132 [AV.list 3 (l.map A9.cs), AV.agg w.cs] (AV.list 3 ((ins l w).map A9.cs)) := by
  rw [← BT9 ha]
  exact K2 (BJ4 l w hl) fun v _ => J3 (List.mem_singleton.2 rfl) F5
end Go.Proofs.YtcfkbhnpfjjmjaaGreat
namespace Go.M
open Go.AV
theorem Au7 (s : Str) : -999999 ≤ (l5N s).1 ∧ (l5N s).1 ≤ 999999 := by
  cases h : (l5N s).2 with
  | false => rw [l5N_fail s h]; decide
  | true => exact (l5N_back (s := s) (n := (l5N s).1) (by rw [← h])).2
theorem BA8 {buf : List A9} {got : List G4} {k : Str} {n : Nat} (hb : ∀ w ∈ buf, w.size ≤ n) (hg : ∀ g ∈ got, g.size ≤ n) : (E2 buf got k).1.length ≤ n := by
  unfold E2
  split
  · rename_i w hw
    have := hb w (List.mem_of_find?_eq_some hw)
    unfold A9.size at this; dsimp only; omega
  · split
    · rename_i g hg2
      have := hg g (List.mem_of_find?_eq_some hg2)
      unfold G4.size at this; dsimp only; omega
    · exact Nat.zero_le _
theorem AM3 {α : Type} {p : α → Bool} {l : List α} {i : Nat} {x : α} (h : l[i]? = some x) : (l.drop i).find? p = if p x = true then some x else (l.drop (i + 1)).find? p := by
  rw [drop_some h]
  by_cases hp : p x = true
  · rw [List.find?_cons_of_pos hp, if_pos hp]
  · rw [List.find?_cons_of_neg hp, if_neg hp]
end Go.M
namespace Go.Proofs.YtcfkbhnpfjjmjaaGreat
open Go Go.AV Go.M
attribute [local irreducible] OpW OpA OpS AWP B9 J5 C8 OpE RetOk H1 I9 Le Ev F6 J9 V9 Int.tmod Int.tdiv IntKind.wrap bandI
theorem Ap1 (buf : List A9) (got : List G4) (k : Str) : B9 Tryz.prog 151 [AV.list 3 (buf.map A9.cs), AV.list 3 (got.map G4.cs), AV.str k] (AV.tup [AV.str (E2 buf got k).1, AV.bool (E2 buf got k).2.1, AV.bool (E2 buf got k).2.2]) := by
 refine B7 Tryz.func151 rfl Tryz.ntmps151 rfl ?_
 refine S0 (t := 0) rfl fun hlb => ?_
 try simp only [A5] at hlb
 refine S0 (t := 1) rfl fun hlg => ?_
 try simp only [A5] at hlg
 refine R2 ?_
 refine A4 rfl (D4 rfl (L4 (l := []) rfl)) ?_
 refine R11 ?_
 refine E5 [(1, _), (2, _), (13, _), (14, _)] _ (fun (i : Nat) => i ≤ buf.length ∧ buf.find? (fun w => w.Key == k) = (buf.drop i).find? (fun w => w.Key == k)) (fun (i : Nat) => []) (fun (i : Nat) => [(15, AV.int i)]) (fun (i : Nat) => buf.length - i) (0) ?_ (F2 ⟨rfl, rfl, rfl, rfl, rfl, trivial⟩) ?_
 ·exact ⟨Nat.zero_le _, rfl⟩
 intro i hinv
 refine R5 ?_
 refine A8 (A0 rfl) ?_ ?_
 ·intro h16
  have k16 := of_decide_eq_true h16; try simp only [A5] at k16
  have hlt : i < buf.length := Aw0
  obtain ⟨x, hx⟩ := get_some hlt
  refine R5 ?_
  refine A4 rfl (C7 rfl C0 E9 (A0 rfl) (A0 rfl) hx qz4) ?_
  refine R2 ?_
  intro b10
  refine R9 ?_
  refine A8 (A0 rfl) ?_ ?_
  ·intro h22
   have he : E2 buf got k = (x.Val, !x.Gone, true) := (by unfold E2; rw [hinv.2, AM3 hx, if_pos h22])
   rw [he]
   refine R12 ?_
   exact W6 rfl D0 (B6 (A6 rfl B0) (B6 (A6 rfl B0) (B6 (A6 rfl B0) E8)))
  intro h22
  refine R5 ?_
  refine F3 i (i + 1) ?_ ?_ (O3 1 ⟨rfl, rfl, rfl, rfl, rfl, trivial⟩)
  ·exact ⟨by omega, by rw [hinv.2, AM3 hx, if_neg (by rw [h22]; decide)]⟩
  omega
 intro h16
 have k16 := of_decide_eq_false h16; try simp only [A5] at k16
 have hge : buf.length ≤ i := Aw0
 have hnb : buf.find? (fun w => w.Key == k) = none := Ai8
 refine R9 ?_
 refine E5 [(2, _), (29, _), (30, _)] _ (fun (j : Nat) => j ≤ got.length ∧ got.find? (fun g => g.Key == k) = (got.drop j).find? (fun g => g.Key == k)) (fun (j : Nat) => []) (fun (j : Nat) => [(31, AV.int j)]) (fun (j : Nat) => got.length - j) (0) ?_ (F2 ⟨rfl, rfl, rfl, rfl, trivial⟩) ?_
 ·exact ⟨Nat.zero_le _, rfl⟩
 intro j hinv
 refine R5 ?_
 refine A8 (A0 rfl) ?_ ?_
 ·intro h32
  have k32 := of_decide_eq_true h32; try simp only [A5] at k32
  have hlt1 : j < got.length := (by simpa using h32)
  obtain ⟨y, hy⟩ := get_some hlt1
  refine R5 ?_
  refine A4 rfl (C7 rfl J6 O5 (A0 rfl) (A0 rfl) hy qz4) ?_
  refine R2 ?_
  intro b12
  refine R9 ?_
  refine A8 (A0 rfl) ?_ ?_
  ·intro h38
   have he : E2 buf got k = (y.Val, y.There, true) := (by unfold E2; rw [hnb, hinv.2, AM3 hy, if_pos h38])
   rw [he]
   refine R11 ?_
   exact W6 rfl D0 (B6 (A6 rfl B0) (B6 (A6 rfl B0) (B6 (A6 rfl B0) E8)))
  intro h38
  refine R5 ?_
  refine F3 j (j + 1) ?_ ?_ (O3 1 ⟨rfl, rfl, rfl, rfl, trivial⟩)
  ·exact ⟨by omega, by rw [hinv.2, AM3 hy, if_neg (by rw [h38]; decide)]⟩
  omega
 intro h32
 have k32 := of_decide_eq_false h32; try simp only [A5] at k32
 have hge1 : got.length ≤ j := (by simpa using h32)
 have he : E2 buf got k = ([], false, false) := (by unfold E2; rw [hnb, hinv.2, List.drop_eq_nil_of_le hge1]; rfl)
 rw [he]
 refine R3 ?_
 refine A4 rfl (D4 rfl (L4 (l := []) rfl)) ?_
 refine R4 ?_
 exact W6 rfl D0 (B6 (A6 rfl B0) (B6 (A6 rfl B0) (B6 (A6 rfl B0) E8)))
theorem Au8 (o : TOp) (val : Str) (there : Bool) (hv : val.length ≤ 1048576) (hb : -1000000 ≤ o.By ∧ o.By ≤ 1000000) : B9 Tryz.prog 152 [AV.agg o.cs, AV.str val, AV.bool there] (AV.bool (m5 o val there)) := by
 have hr := Au7 val
 refine B7 Tryz.func152 rfl Tryz.ntmps152 rfl ?_
 refine R3 ?_
 intro b3
 refine R5 ?_
 refine A4 rfl (B2 rfl Tryz.call153 rfl (Af7 val hv) (A1 (A0 rfl) A7)) ?_
 refine R18 ?_
 refine A8 (A0 rfl) ?_ ?_
 ·intro h16
  have k16 := D2 h16; try simp only [A5] at k16
  have he : m5 o val there = (if there = true then !(l5N val).2 || !within ((l5N val).1 + o.By) (-999999) 999999 else false) := (by unfold m5; rw [if_pos k16])
  rw [he]
  refine R6 ?_
  refine A8 (A0 rfl) ?_ ?_
  ·intro h19
   rw [if_neg (by rw [show there = false by simpa using h19]; decide)]
   refine R5 ?_
   exact D5 rfl (A6 rfl B0)
  intro h19
  rw [if_pos (show there = true by simpa using h19)]
  refine R10 ?_
  refine P4 rfl (fun hc => B2 rfl Tryz.call30 rfl (N5 _ _ _) (A1 (B1 rfl hc) (A1 D8 (A1 D8 A7)))) ?_
  refine R5 ?_
  exact D5 rfl (A6 rfl B0)
 intro h16
 have k16 := D6 h16; try simp only [A5] at k16
 refine R5 ?_
 refine A8 (A0 rfl) ?_ ?_
 ·intro h30
  have k30 := D2 h30; try simp only [A5] at k30
  have he : m5 o val there = ((!there || !(l5N val).2) || decide ((l5N val).1 < o.By)) := (by unfold m5; rw [if_neg k16, if_pos k30])
  rw [he]
  refine R17 ?_
  exact D5 rfl (A6 rfl B0)
 intro h30
 have k30 := D6 h30; try simp only [A5] at k30
 refine R5 ?_
 refine A8 (A0 rfl) ?_ ?_
 ·intro h44
  have k44 := D2 h44; try simp only [A5] at k44
  have he : m5 o val there = there := (by unfold m5; rw [if_neg k16, if_neg k30, if_pos k44])
  rw [he]
  refine R6 ?_
  exact D5 rfl (A6 rfl B0)
 intro h44
 have k44 := D6 h44; try simp only [A5] at k44
 refine R5 ?_
 refine A8 (A0 rfl) ?_ ?_
 ·intro h47
  have k47 := D2 h47; try simp only [A5] at k47
  have he : m5 o val there = (!there || (val != o.Val)) := (by unfold m5; rw [if_neg k16, if_neg k30, if_neg k44, if_pos k47])
  rw [he]
  refine R13 ?_
  exact D5 rfl (A6 rfl B0)
 intro h47
 have k47 := D6 h47; try simp only [A5] at k47
 have he : m5 o val there = false := (by unfold m5; rw [if_neg k16, if_neg k30, if_neg k44, if_neg k47])
 rw [he]
 refine R6 ?_
 exact D5 rfl (A6 rfl B0)
theorem AO3 (n : Int) (h : -999999 ≤ n ∧ n ≤ 999999) : B9 Tryz.prog 154 [AV.int n] (AV.str (AB5 n)) := by
 refine B7 Tryz.func154 rfl Tryz.ntmps154 rfl ?_
 refine R2 ?_
 refine A4 rfl (D4 rfl (L4 (l := []) rfl)) ?_
 refine R7 ?_
 refine A8 (A0 rfl) ?_ ?_
 ·intro h4
  have k4 := of_decide_eq_true h4; try simp only [A5] at k4
  obtain ⟨m, hm⟩ : ∃ m : Nat, n = -(m : Int) := ⟨n.natAbs, by omega⟩
  subst hm
  have hdl := AZ7 (k := 6) (n := m) qz8 D0
  have hneg : IntKind.i64.wrap (0 - -(m : Int)) = (m : Int) := by (rw [show 0 - -(m : Int) = m by omega]; exact Ae8 qz8)
  rw [Am3 qz8]
  refine R3 ?_
  refine A4 rfl (w_neg rfl (A0 rfl)) ?_
  rw [hneg]
  refine A4 rfl (B2 rfl Tryz.call172 rfl (BK2 m qz8) (A1 (A0 rfl) A7)) ?_
  refine A4 rfl (w_cat rfl (L4 (l := [45]) rfl) (A0 rfl) qz183) ?_
  refine R3 ?_
  exact D5 rfl (A6 rfl B0)
 intro h4
 have k4 := of_decide_eq_false h4; try simp only [A5] at k4
 obtain ⟨m, hm⟩ : ∃ m : Nat, n = (m : Int) := ⟨n.toNat, by omega⟩
 subst hm
 rw [BE2]
 refine R4 ?_
 refine A4 rfl (B2 rfl Tryz.call172 rfl (BK2 m qz8) (A1 (A0 rfl) A7)) ?_
 refine R3 ?_
 exact D5 rfl (A6 rfl B0)
theorem Bs2 (l : List TOp) (got : List G4) (hl : l.length ≤ 1000) (ho : ∀ o ∈ l, AH6 1000 o) (hgot : ∀ g ∈ got, g.size ≤ 1000) : B9 Tryz.prog 129 [AV.list 4 (l.map TOp.cs), AV.list 3 (got.map G4.cs)] (AV.tup [AV.int (N9 l got).1, AV.str (N9 l got).2.1, AV.list 3 ((N9 l got).2.2.map A9.cs)]) := by
 have hll : l.length ≤ 1000 := by omega
 refine B7 Tryz.func129 rfl Tryz.ntmps129 rfl ?_
 refine R3 ?_
 refine A4 rfl (D4 rfl (L4 (l := []) rfl)) ?_
 refine A4 rfl (D4 rfl (P8 (sz := 3))) ?_
 refine R3 ?_
 refine A4 rfl (D4 rfl (P8 (sz := 3))) ?_
 refine R9 ?_
 refine J7 [(1, _), (15, _), (16, _)] _ (fun (i : Nat) (buf : List A9) => i ≤ l.length ∧ N9 l got = stepFrom got buf (l.drop i) ∧ adj wLess buf = true ∧ (∀ w ∈ buf, w.size ≤ 1000) ∧ buf.length ≤ i) (fun (i : Nat) (buf : List A9) => []) (fun (i : Nat) (buf : List A9) => [(7, AV.list 3 (buf.map A9.cs)), (17, AV.int i)]) (fun (i : Nat) (buf : List A9) => l.length - i) (0) ([]) ?_ (F2 ⟨rfl, rfl, rfl, rfl, rfl, trivial⟩) ?_
 ·exact ⟨Nat.zero_le _, rfl, rfl, fun w hw => absurd hw List.not_mem_nil, Nat.le_refl _⟩
 intro i buf hinv
 refine R5 ?_
 refine A8 (A0 rfl) ?_ ?_
 ·intro h18
  have k18 := of_decide_eq_true h18; try simp only [A5] at k18
  have hlt : i < l.length := (by simpa using h18)
  obtain ⟨x, hx⟩ := get_some hlt
  have hso := ho x (C6 hx)
  have hsv := BA8 (k := x.Key) hinv.2.2.2.1 hgot
  have hbl := hinv.2.2.2.2
  refine R5 ?_
  refine A4 rfl (C7 rfl Q2 S9 (A0 rfl) (A0 rfl) hx qz4) ?_
  refine R2 ?_
  intro b9
  refine R8 ?_
  refine A4 rfl (B2 rfl Tryz.call151 rfl (Ap1 buf got x.Key) (A1 (A0 rfl) (A1 (A0 rfl) (A1 (A0 rfl) A7)))) ?_
  refine R24 ?_
  refine A8 (A0 rfl) ?_ ?_
  ·intro h41
   have he : N9 l got = (1, x.Key, []) := qz169
   rw [he]
   refine R6 ?_
   refine C2 rfl rfl (D4 rfl (P8 (sz := 3))) ?_
   refine R2 ?_
   exact W6 rfl D0 (B6 (A6 rfl B0) (B6 (A6 rfl B0) (B6 (A6 rfl B0) E8)))
  intro h41
  refine R7 ?_
  refine A4 rfl (B2 rfl Tryz.call152 rfl (Au8 x _ _ qz8 (by have h9 := hso.by'; omega)) (A1 (A0 rfl) (A1 (A0 rfl) (A1 (A0 rfl) A7)))) ?_
  refine R1 ?_
  refine A8 (A0 rfl) ?_ ?_
  ·intro h47
   have he : N9 l got = (2, [], []) := qz140
   rw [he]
   refine R3 ?_
   refine A4 rfl (D4 rfl (L4 (l := []) rfl)) ?_
   refine A4 rfl (D4 rfl (P8 (sz := 3))) ?_
   refine R2 ?_
   exact W6 rfl D0 (B6 (A6 rfl B0) (B6 (A6 rfl B0) (B6 (A6 rfl B0) E8)))
  intro h47
  have hgv : m5 x (E2 buf got x.Key).1 (E2 buf got x.Key).2.1 = false := h47
  have hnx : N9 l got = stepFrom got (opPut x (E2 buf got x.Key).1 (E2 buf got x.Key).2.1 buf) (l.drop (i + 1)) := qz124
  refine R12 ?_
  refine A8 (A0 rfl) ?_ ?_
  ·intro h50
   have k50 := D2 h50; try simp only [A5] at k50
   have hop : opPut x (E2 buf got x.Key).1 (E2 buf got x.Key).2.1 buf = ins buf ⟨x.Key, x.Val, false⟩ := (by unfold opPut; rw [if_pos k50])
   refine R7 ?_
   refine A4 rfl (B2 rfl Tryz.call132 rfl (m4 buf ⟨x.Key, x.Val, false⟩ qz8 hinv.2.2.1) (A1 (A0 rfl) (A1 (A0 rfl) A7))) ?_
   refine R6 ?_
   refine G9 i buf (i + 1) (opPut x (E2 buf got x.Key).1 (E2 buf got x.Key).2.1 buf) ?_ ?_ (O3 1 ⟨AR6, rfl, rfl, rfl, rfl, trivial⟩)
   ·exact ⟨by omega, hnx, l8 hinv.2.2.1, m1 hso.size D0 hso.by' (.inl hso.key) hgv hinv.2.2.2.1, by have h9 := l9 (o := x) (v := (E2 buf got x.Key).1) (t := (E2 buf got x.Key).2.1) (buf := buf); omega⟩
   omega
  intro h50
  have k50 := D6 h50; try simp only [A5] at k50
  refine R5 ?_
  refine A8 (A0 rfl) ?_ ?_
  ·intro h59
   have k59 := D2 h59; try simp only [A5] at k59
   have hop : opPut x (E2 buf got x.Key).1 (E2 buf got x.Key).2.1 buf = ins buf ⟨x.Key, [], true⟩ := (by unfold opPut; rw [if_neg k50, if_pos k59])
   refine R5 ?_
   refine A4 rfl (B2 rfl Tryz.call132 rfl (m4 buf ⟨x.Key, [], true⟩ qz8 hinv.2.2.1) (A1 (A0 rfl) (A1 (A0 rfl) A7))) ?_
   refine R6 ?_
   refine G9 i buf (i + 1) (opPut x (E2 buf got x.Key).1 (E2 buf got x.Key).2.1 buf) ?_ ?_ (O3 1 ⟨AR6, rfl, rfl, rfl, rfl, trivial⟩)
   ·exact ⟨by omega, hnx, l8 hinv.2.2.1, m1 hso.size D0 hso.by' (.inl hso.key) hgv hinv.2.2.2.1, by have h9 := l9 (o := x) (v := (E2 buf got x.Key).1) (t := (E2 buf got x.Key).2.1) (buf := buf); omega⟩
   omega
  intro h59
  have k59 := D6 h59; try simp only [A5] at k59
  refine R5 ?_
  refine A8 (A0 rfl) ?_ ?_
  ·intro h66
   have k66 := D2 h66; try simp only [A5] at k66
   have har := Am5 k66 hso.by' hgv
   have hnr := Au7 (E2 buf got x.Key).1
   refine R3 ?_
   refine A4 rfl (B2 rfl Tryz.call153 rfl (Af7 _ qz8) (A1 (A0 rfl) A7)) ?_
   refine R12 ?_
   refine A8 (A0 rfl) ?_ ?_
   ·intro h74
    have hth : (E2 buf got x.Key).2.1 = false := (by simpa using h74)
    have hadd : addR x (E2 buf got x.Key).1 (E2 buf got x.Key).2.1 = 0 + x.By := Bc8
    rw [hadd] at har
    have hop : opPut x (E2 buf got x.Key).1 (E2 buf got x.Key).2.1 buf = ins buf ⟨x.Key, AB5 (0 + x.By), false⟩ := Bd5
    refine R11 ?_
    refine C2 rfl rfl (B2 rfl Tryz.call154 rfl (AO3 _ qz8) (A1 (A0 rfl) A7)) ?_
    refine R1 ?_
    refine C2 rfl rfl (B2 rfl Tryz.call132 rfl (m4 buf ⟨x.Key, AB5 _, false⟩ qz8 hinv.2.2.1) (A1 (A0 rfl) (A1 (A0 rfl) A7))) ?_
    refine R6 ?_
    refine G9 i buf (i + 1) (opPut x (E2 buf got x.Key).1 (E2 buf got x.Key).2.1 buf) ?_ ?_ (O3 1 ⟨AR6, rfl, rfl, rfl, rfl, trivial⟩)
    ·exact ⟨by omega, hnx, l8 hinv.2.2.1, m1 hso.size D0 hso.by' (.inl hso.key) hgv hinv.2.2.2.1, by have h9 := l9 (o := x) (v := (E2 buf got x.Key).1) (t := (E2 buf got x.Key).2.1) (buf := buf); omega⟩
    omega
   intro h74
   have hth : (E2 buf got x.Key).2.1 = true := (by simpa using h74)
   have hadd : addR x (E2 buf got x.Key).1 (E2 buf got x.Key).2.1 = (l5N (E2 buf got x.Key).1).1 + x.By := Bc8
   rw [hadd] at har
   have hop : opPut x (E2 buf got x.Key).1 (E2 buf got x.Key).2.1 buf = ins buf ⟨x.Key, AB5 ((l5N (E2 buf got x.Key).1).1 + x.By), false⟩ := Bd5
   refine R9 ?_
   refine C2 rfl rfl (B2 rfl Tryz.call154 rfl (AO3 _ qz8) (A1 (A0 rfl) A7)) ?_
   refine R1 ?_
   refine C2 rfl rfl (B2 rfl Tryz.call132 rfl (m4 buf ⟨x.Key, AB5 _, false⟩ qz8 hinv.2.2.1) (A1 (A0 rfl) (A1 (A0 rfl) A7))) ?_
   refine R6 ?_
   refine G9 i buf (i + 1) (opPut x (E2 buf got x.Key).1 (E2 buf got x.Key).2.1 buf) ?_ ?_ (O3 1 ⟨AR6, rfl, rfl, rfl, rfl, trivial⟩)
   ·exact ⟨by omega, hnx, l8 hinv.2.2.1, m1 hso.size D0 hso.by' (.inl hso.key) hgv hinv.2.2.2.1, by have h9 := l9 (o := x) (v := (E2 buf got x.Key).1) (t := (E2 buf got x.Key).2.1) (buf := buf); omega⟩
   omega
  intro h66
  have k66 := D6 h66; try simp only [A5] at k66
  have hop : opPut x (E2 buf got x.Key).1 (E2 buf got x.Key).2.1 buf = buf := (by unfold opPut; rw [if_neg k50, if_neg k59, if_neg k66])
  refine R5 ?_
  refine G9 i buf (i + 1) (opPut x (E2 buf got x.Key).1 (E2 buf got x.Key).2.1 buf) ?_ ?_ (O3 1 ⟨AR6, rfl, rfl, rfl, rfl, trivial⟩)
  ·exact ⟨by omega, hnx, l8 hinv.2.2.1, m1 hso.size D0 hso.by' (.inl hso.key) hgv hinv.2.2.2.1, by have h9 := l9 (o := x) (v := (E2 buf got x.Key).1) (t := (E2 buf got x.Key).2.1) (buf := buf); omega⟩
  omega
 intro h18
 have k18 := of_decide_eq_false h18; try simp only [A5] at k18
 have hge : l.length ≤ i := (by simpa using h18)
 have he : N9 l got = (3, [], buf) := qz180
 rw [he]
 refine R5 ?_
 refine A4 rfl (D4 rfl (L4 (l := []) rfl)) ?_
 refine R3 ?_
 exact W6 rfl D0 (B6 (A6 rfl B0) (B6 (A6 rfl B0) (B6 (A6 rfl B0) E8)))
theorem Af9 (l : List TOp) (v : Value) (got : List G4) (hl : l.length ≤ 1000) (ho : ∀ o ∈ l, AH6 1000 o) (hgot : ∀ g ∈ got, g.size ≤ 1000) : C8 Tryz.prog 129 [AV.list 4 (l.map TOp.cs), AV.is v] [.arr v 45 3 (got.map G4.cs)] (fun _ : Unit => True) (fun _ => [.arr v 45 3 (got.map G4.cs)]) (fun _ => AV.tup [AV.int (N9 l got).1, AV.str (N9 l got).2.1, AV.list 3 ((N9 l got).2.2.map A9.cs)]) := by
 have hll : l.length ≤ 1000 := by omega
 refine C3 Tryz.func129 rfl Tryz.ntmps129 rfl ?_
 refine R3 ?_
 refine A4 rfl (D4 rfl (L4 (l := []) rfl)) ?_
 refine A4 rfl (D4 rfl (P8 (sz := 3))) ?_
 refine R3 ?_
 refine A4 rfl (D4 rfl (P8 (sz := 3))) ?_
 refine R9 ?_
 refine J7 [(1, _), (15, _), (16, _)] _ (fun (i : Nat) (buf : List A9) => i ≤ l.length ∧ N9 l got = stepFrom got buf (l.drop i) ∧ adj wLess buf = true ∧ (∀ w ∈ buf, w.size ≤ 1000) ∧ buf.length ≤ i) (fun (i : Nat) (buf : List A9) => []) (fun (i : Nat) (buf : List A9) => [(7, AV.list 3 (buf.map A9.cs)), (17, AV.int i)]) (fun (i : Nat) (buf : List A9) => l.length - i) (0) ([]) ?_ (F2 ⟨rfl, rfl, rfl, rfl, rfl, trivial⟩) ?_
 ·exact ⟨Nat.zero_le _, rfl, rfl, fun w hw => absurd hw List.not_mem_nil, Nat.le_refl _⟩
 intro i buf hinv
 refine R5 ?_
 refine A8 (A0 rfl) ?_ ?_
 ·intro h18
  have k18 := of_decide_eq_true h18; try simp only [A5] at k18
  have hlt : i < l.length := (by simpa using h18)
  obtain ⟨x, hx⟩ := get_some hlt
  have hso := ho x (C6 hx)
  have hsv := BA8 (k := x.Key) hinv.2.2.2.1 hgot
  have hbl := hinv.2.2.2.2
  refine R5 ?_
  refine A4 rfl (C7 rfl Q2 S9 (A0 rfl) (A0 rfl) hx qz4) ?_
  refine R2 ?_
  intro b9
  refine R8 ?_
  refine A4 rfl (AG1 rfl Tryz.call151 rfl (Ap1 buf got x.Key) (BC8 (D3 (X4 _) (D3 (W9 _) (D3 (W9 _) M4)))) (T2 (evb (A0 rfl)) (T2 (AX2 1 (A0 rfl) rfl) (T2 (evb (A0 rfl)) i0)))) ?_
  refine R24 ?_
  refine A8 (A0 rfl) ?_ ?_
  ·intro h41
   have he : N9 l got = (1, x.Key, []) := qz169
   rw [he]
   refine R6 ?_
   refine C2 rfl rfl (D4 rfl (P8 (sz := 3))) ?_
   refine R2 ?_
   exact G1 [1] () (trivial) rfl B0 (N4 rfl D0 (B6 (A6 rfl B0) (B6 (A6 rfl B0) (B6 (A6 rfl B0) E8))))
  intro h41
  refine R7 ?_
  refine A4 rfl (B2 rfl Tryz.call152 rfl (Au8 x _ _ qz8 (by have h9 := hso.by'; omega)) (A1 (A0 rfl) (A1 (A0 rfl) (A1 (A0 rfl) A7)))) ?_
  refine R1 ?_
  refine A8 (A0 rfl) ?_ ?_
  ·intro h47
   have he : N9 l got = (2, [], []) := qz140
   rw [he]
   refine R3 ?_
   refine A4 rfl (D4 rfl (L4 (l := []) rfl)) ?_
   refine A4 rfl (D4 rfl (P8 (sz := 3))) ?_
   refine R2 ?_
   exact G1 [1] () (trivial) rfl B0 (N4 rfl D0 (B6 (A6 rfl B0) (B6 (A6 rfl B0) (B6 (A6 rfl B0) E8))))
  intro h47
  have hgv : m5 x (E2 buf got x.Key).1 (E2 buf got x.Key).2.1 = false := h47
  have hnx : N9 l got = stepFrom got (opPut x (E2 buf got x.Key).1 (E2 buf got x.Key).2.1 buf) (l.drop (i + 1)) := qz124
  refine R12 ?_
  refine A8 (A0 rfl) ?_ ?_
  ·intro h50
   have k50 := D2 h50; try simp only [A5] at k50
   have hop : opPut x (E2 buf got x.Key).1 (E2 buf got x.Key).2.1 buf = ins buf ⟨x.Key, x.Val, false⟩ := (by unfold opPut; rw [if_pos k50])
   refine R7 ?_
   refine A4 rfl (B2 rfl Tryz.call132 rfl (m4 buf ⟨x.Key, x.Val, false⟩ qz8 hinv.2.2.1) (A1 (A0 rfl) (A1 (A0 rfl) A7))) ?_
   refine R6 ?_
   refine G9 i buf (i + 1) (opPut x (E2 buf got x.Key).1 (E2 buf got x.Key).2.1 buf) ?_ ?_ (O3 1 ⟨AR6, rfl, rfl, rfl, rfl, trivial⟩)
   ·exact ⟨by omega, hnx, l8 hinv.2.2.1, m1 hso.size D0 hso.by' (.inl hso.key) hgv hinv.2.2.2.1, by have h9 := l9 (o := x) (v := (E2 buf got x.Key).1) (t := (E2 buf got x.Key).2.1) (buf := buf); omega⟩
   omega
  intro h50
  have k50 := D6 h50; try simp only [A5] at k50
  refine R5 ?_
  refine A8 (A0 rfl) ?_ ?_
  ·intro h59
   have k59 := D2 h59; try simp only [A5] at k59
   have hop : opPut x (E2 buf got x.Key).1 (E2 buf got x.Key).2.1 buf = ins buf ⟨x.Key, [], true⟩ := (by unfold opPut; rw [if_neg k50, if_pos k59])
   refine R5 ?_
   refine A4 rfl (B2 rfl Tryz.call132 rfl (m4 buf ⟨x.Key, [], true⟩ qz8 hinv.2.2.1) (A1 (A0 rfl) (A1 (A0 rfl) A7))) ?_
   refine R6 ?_
   refine G9 i buf (i + 1) (opPut x (E2 buf got x.Key).1 (E2 buf got x.Key).2.1 buf) ?_ ?_ (O3 1 ⟨AR6, rfl, rfl, rfl, rfl, trivial⟩)
   ·exact ⟨by omega, hnx, l8 hinv.2.2.1, m1 hso.size D0 hso.by' (.inl hso.key) hgv hinv.2.2.2.1, by have h9 := l9 (o := x) (v := (E2 buf got x.Key).1) (t := (E2 buf got x.Key).2.1) (buf := buf); omega⟩
   omega
  intro h59
  have k59 := D6 h59; try simp only [A5] at k59
  refine R5 ?_
  refine A8 (A0 rfl) ?_ ?_
  ·intro h66
   have k66 := D2 h66; try simp only [A5] at k66
   have har := Am5 k66 hso.by' hgv
   have hnr := Au7 (E2 buf got x.Key).1
   refine R3 ?_
   refine A4 rfl (B2 rfl Tryz.call153 rfl (Af7 _ qz8) (A1 (A0 rfl) A7)) ?_
   refine R12 ?_
   refine A8 (A0 rfl) ?_ ?_
   ·intro h74
    have hth : (E2 buf got x.Key).2.1 = false := (by simpa using h74)
    have hadd : addR x (E2 buf got x.Key).1 (E2 buf got x.Key).2.1 = 0 + x.By := Bc8
    rw [hadd] at har
    have hop : opPut x (E2 buf got x.Key).1 (E2 buf got x.Key).2.1 buf = ins buf ⟨x.Key, AB5 (0 + x.By), false⟩ := Bd5
    refine R11 ?_
    refine C2 rfl rfl (B2 rfl Tryz.call154 rfl (AO3 _ qz8) (A1 (A0 rfl) A7)) ?_
    refine R1 ?_
    refine C2 rfl rfl (B2 rfl Tryz.call132 rfl (m4 buf ⟨x.Key, AB5 _, false⟩ qz8 hinv.2.2.1) (A1 (A0 rfl) (A1 (A0 rfl) A7))) ?_
    refine R6 ?_
    refine G9 i buf (i + 1) (opPut x (E2 buf got x.Key).1 (E2 buf got x.Key).2.1 buf) ?_ ?_ (O3 1 ⟨AR6, rfl, rfl, rfl, rfl, trivial⟩)
    ·exact ⟨by omega, hnx, l8 hinv.2.2.1, m1 hso.size D0 hso.by' (.inl hso.key) hgv hinv.2.2.2.1, by have h9 := l9 (o := x) (v := (E2 buf got x.Key).1) (t := (E2 buf got x.Key).2.1) (buf := buf); omega⟩
    omega
   intro h74
   have hth : (E2 buf got x.Key).2.1 = true := (by simpa using h74)
   have hadd : addR x (E2 buf got x.Key).1 (E2 buf got x.Key).2.1 = (l5N (E2 buf got x.Key).1).1 + x.By := Bc8
   rw [hadd] at har
   have hop : opPut x (E2 buf got x.Key).1 (E2 buf got x.Key).2.1 buf = ins buf ⟨x.Key, AB5 ((l5N (E2 buf got x.Key).1).1 + x.By), false⟩ := Bd5
   refine R9 ?_
   refine C2 rfl rfl (B2 rfl Tryz.call154 rfl (AO3 _ qz8) (A1 (A0 rfl) A7)) ?_
   refine R1 ?_
   refine C2 rfl rfl (B2 rfl Tryz.call132 rfl (m4 buf ⟨x.Key, AB5 _, false⟩ qz8 hinv.2.2.1) (A1 (A0 rfl) (A1 (A0 rfl) A7))) ?_
   refine R6 ?_
   refine G9 i buf (i + 1) (opPut x (E2 buf got x.Key).1 (E2 buf got x.Key).2.1 buf) ?_ ?_ (O3 1 ⟨AR6, rfl, rfl, rfl, rfl, trivial⟩)
   ·exact ⟨by omega, hnx, l8 hinv.2.2.1, m1 hso.size D0 hso.by' (.inl hso.key) hgv hinv.2.2.2.1, by have h9 := l9 (o := x) (v := (E2 buf got x.Key).1) (t := (E2 buf got x.Key).2.1) (buf := buf); omega⟩
   omega
  intro h66
  have k66 := D6 h66; try simp only [A5] at k66
  have hop : opPut x (E2 buf got x.Key).1 (E2 buf got x.Key).2.1 buf = buf := (by unfold opPut; rw [if_neg k50, if_neg k59, if_neg k66])
  refine R5 ?_
  refine G9 i buf (i + 1) (opPut x (E2 buf got x.Key).1 (E2 buf got x.Key).2.1 buf) ?_ ?_ (O3 1 ⟨AR6, rfl, rfl, rfl, rfl, trivial⟩)
  ·exact ⟨by omega, hnx, l8 hinv.2.2.1, m1 hso.size D0 hso.by' (.inl hso.key) hgv hinv.2.2.2.1, by have h9 := l9 (o := x) (v := (E2 buf got x.Key).1) (t := (E2 buf got x.Key).2.1) (buf := buf); omega⟩
  omega
 intro h18
 have k18 := of_decide_eq_false h18; try simp only [A5] at k18
 have hge : l.length ≤ i := (by simpa using h18)
 have he : N9 l got = (3, [], buf) := qz180
 rw [he]
 refine R5 ?_
 refine A4 rfl (D4 rfl (L4 (l := []) rfl)) ?_
 refine R3 ?_
 exact G1 [0] () (trivial) rfl B0 (N4 rfl D0 (B6 (A6 rfl B0) (B6 (A6 rfl B0) (B6 (A6 rfl B0) E8))))
theorem BA9 (rows : List A9) (k : Str) : B9 Tryz.prog 130 [AV.list 3 (rows.map A9.cs), AV.str k] (AV.agg (tell rows k).cs) := by
 refine B7 Tryz.func130 rfl Tryz.ntmps130 rfl ?_
 refine S0 (t := 0) rfl fun hlb => ?_
 try simp only [A5] at hlb
 refine R3 ?_
 intro b4
 refine R9 ?_
 refine E5 [(1, _), (4, _), (7, _), (8, _)] _ (fun (i : Nat) => i ≤ rows.length ∧ lookW rows k = (rows.drop i).find? (fun w => w.Key == k)) (fun (i : Nat) => []) (fun (i : Nat) => [(9, AV.int i)]) (fun (i : Nat) => rows.length - i) (0) ?_ (F2 ⟨rfl, rfl, rfl, rfl, rfl, trivial⟩) ?_
 ·exact ⟨Nat.zero_le _, rfl⟩
 intro i hinv
 refine R5 ?_
 refine A8 (A0 rfl) ?_ ?_
 ·intro h10
  have k10 := of_decide_eq_true h10; try simp only [A5] at k10
  have hlt : i < rows.length := AD1
  obtain ⟨x, hx⟩ := get_some hlt
  refine R5 ?_
  refine A4 rfl (C7 rfl C0 E9 (A0 rfl) (A0 rfl) hx qz4) ?_
  refine R2 ?_
  intro b6
  refine R9 ?_
  refine A8 (A0 rfl) ?_ ?_
  ·intro h16
   have he : tell rows k = ⟨k, x.Val, true⟩ := (by unfold tell; rw [hinv.2, AM3 hx, if_pos h16])
   rw [he]
   refine R9 ?_
   exact D5 rfl (G7 (ys := _) 1 rfl rfl AC6 O5 rfl)
  intro h16
  refine R5 ?_
  refine F3 i (i + 1) ?_ ?_ (O3 1 ⟨rfl, rfl, rfl, rfl, rfl, trivial⟩)
  ·exact ⟨by omega, by rw [hinv.2, AM3 hx, if_neg (by rw [h16]; decide)]⟩
  omega
 intro h10
 have k10 := of_decide_eq_false h10; try simp only [A5] at k10
 have hge : rows.length ≤ i := AD1
 have he : tell rows k = ⟨k, [], false⟩ := (by unfold tell; rw [hinv.2, List.drop_eq_nil_of_le hge]; rfl)
 rw [he]
 refine R8 ?_
 exact D5 rfl (G7 (ys := _) 0 rfl rfl AC6 O5 rfl)
end Go.Proofs.YtcfkbhnpfjjmjaaGreat
namespace Go.Proofs.YtcfkbhnpfjjmjaaGreat
open Go Go.AV Go.M
attribute [local irreducible] OpW OpA OpS AWP B9 J5 C8 OpE RetOk H1 I9 Le Ev F6 J9 V9 Int.tmod IntKind.wrap bandI
structure DealB (d : TDeal) : Prop where
  cuts : ∀ k ∈ d.Cuts, k.length ≤ 4611686018427387904
  clen : d.Cuts.length ≤ 1000000
  slen : d.States.length ≤ 10
  olen : d.Orders.length ≤ 1000000
  states : ∀ s ∈ d.States, s.size ≤ 100000
  orders : ∀ o ∈ d.Orders, o.size ≤ 300000
end Go.Proofs.YtcfkbhnpfjjmjaaGreat
namespace Go.M
open Go.AV
end Go.M
namespace Go.Proofs.YtcfkbhnpfjjmjaaGreat
open Go Go.AV Go.M
attribute [local irreducible] OpW OpA OpS AWP B9 J5 C8 OpE RetOk H1 I9 Le Ev F6 J9 V9 Int.tmod IntKind.wrap bandI
end Go.Proofs.YtcfkbhnpfjjmjaaGreat
namespace Go.Proofs.YtcfkbhnpfjjmjaaGreat
open Go Go.AV Go.M
attribute [local irreducible] OpW OpA OpS AWP B9 J5 C8 OpE RetOk H1 I9 Le Ev F6 J9 Int.tmod IntKind.wrap bandI
theorem BK5 (b : Nat) (code : List Int) (hcode : Y4 code) (c : N0) (l : List Str) (hl : 1 ≤ l.length ∧ l.length ≤ 1000) (hp : c.p ≤ 7000000) : C8 Tryz.prog 133 [AV.ptr b 0, strs l] [.box b 55 (Q5 code c)] (fun x : N0 × Str => x.1.p ≤ c.p + 2 ∧ x.2 ∈ l) (fun x => [.box b 55 (Q5 code x.1)]) (fun x => AV.str x.2) := by
  obtain ⟨hl1, hl2⟩ := hl
  refine C3 Tryz.func133 rfl Tryz.ntmps133 rfl ?_
  refine R2 ?_
  refine A4 rfl (D4 rfl (L4 (l := []) rfl)) ?_
  refine R7 ?_
  refine E4 [0] rfl rfl rfl rfl Tryz.call22 rfl (L1 _ _ hcode _ _ g9 qz8) (A1 (A0 rfl) (A1 (A0 rfl) A7)) rfl ?_
  intro x9 ok9
  simp only [A5] at ok9
  obtain ⟨y, hy⟩ := get_some (show x9.2.toNat < l.length by omega)
  refine A4 rfl (C7 rfl F7 K1 (A0 rfl) (A0 rfl) hy qz8) ?_
  refine R4 ?_
  (refine G1 [0] ((_, _)) ?_ rfl V8 (E6 rfl (A6 rfl B0)); exact ⟨ok9.1, C6 hy⟩)
theorem BB0 (b : Nat) (code : List Int) (hcode : Y4 code) (c : N0) (hp : c.p ≤ 6000000) : C8 Tryz.prog 155 [AV.ptr b 0] [.box b 55 (Q5 code c)] (fun x : N0 × Str => x.1.p ≤ c.p + 2 ∧ x.2 ∈ keyD) (fun x => [.box b 55 (Q5 code x.1)]) (fun x => AV.str x.2) := by
  refine C3 Tryz.func155 rfl Tryz.ntmps155 rfl ?_
  refine R2 ?_
  refine A4 rfl (D4 rfl (L4 (l := []) rfl)) ?_
  refine R4 ?_
  refine A4 rfl (AJ8 rfl F7 K1 Tryz.zeroValue9 rfl rfl rfl rfl (E0 (L4 (l := [97]) rfl) (V0 _) (E0 (L4 (l := [98]) rfl) (V0 _) (E0 (L4 (l := [99]) rfl) (V0 _) (E0 (L4 (l := [109]) rfl) (V0 _) (E0 (L4 (l := [110]) rfl) (V0 _) (E0 (L4 (l := [122]) rfl) (V0 _) (E0 (L4 (l := [114, 47, 49]) rfl) (V0 _) (E0 (L4 (l := [105, 47, 120, 47, 49]) rfl) (V0 _) T9)))))))) rfl rfl) ?_
  refine E4 [0] rfl rfl rfl rfl Tryz.call133 rfl (BK5 _ _ hcode _ keyD D0 qz8) (A1 (A0 rfl) (A1 (A0 rfl) A7)) rfl ?_
  intro x5 ok5
  refine R3 ?_
  (refine G1 [0] ((_, _)) ?_ rfl V8 (E6 rfl (A6 rfl B0)); exact ok5)
theorem BB1 (b : Nat) (code : List Int) (hcode : Y4 code) (c : N0) (hp : c.p ≤ 6000000) : C8 Tryz.prog 107 [AV.ptr b 0] [.box b 55 (Q5 code c)] (fun x : N0 × Str => x.1.p ≤ c.p + 2 ∧ x.2 ∈ valD) (fun x => [.box b 55 (Q5 code x.1)]) (fun x => AV.str x.2) := by
  refine C3 Tryz.func107 rfl Tryz.ntmps107 rfl ?_
  refine R2 ?_
  refine A4 rfl (D4 rfl (L4 (l := []) rfl)) ?_
  refine R4 ?_
  refine A4 rfl (AJ8 rfl F7 K1 Tryz.zeroValue9 rfl rfl rfl rfl (E0 (L4 (l := []) rfl) (V0 _) (E0 (L4 (l := [49]) rfl) (V0 _) (E0 (L4 (l := [55]) rfl) (V0 _) (E0 (L4 (l := [49, 48]) rfl) (V0 _) (E0 (L4 (l := [45, 51]) rfl) (V0 _) (E0 (L4 (l := [120]) rfl) (V0 _) (E0 (L4 (l := [97, 44, 98, 95, 99]) rfl) (V0 _) T9))))))) rfl rfl) ?_
  refine E4 [0] rfl rfl rfl rfl Tryz.call133 rfl (BK5 _ _ hcode _ valD D0 qz8) (A1 (A0 rfl) (A1 (A0 rfl) A7)) rfl ?_
  intro x5 ok5
  refine R3 ?_
  (refine G1 [0] ((_, _)) ?_ rfl V8 (E6 rfl (A6 rfl B0)); exact ok5)
end Go.Proofs.YtcfkbhnpfjjmjaaGreat
namespace Go.M
open Go.AV
structure WD (l : List A9) : Prop where
  keys : (M2 l).Sublist keyS
  vals : ∀ w ∈ l, isStored w.Val w.Gone = true
theorem WD.len {l : List A9} (h : WD l) : l.length ≤ 8 := by
  have := h.keys.length_le
  rw [show (M2 l).length = l.length from A5 _] at this
  exact this
theorem BX9 {l : List Str} (h1 : ∀ k ∈ l, goodKey k = true) (h2 : n7 l) : areRising l = true := by
  unfold areRising
  rw [List.all_eq_true.2 h1, (j6 (p := Op.bytesLess) (fun _ _ _ => Q4)).2 h2]; rfl
theorem WD.good {l : List A9} (h : WD l) : goodWrites l = true := by
  have hl := h.len
  unfold goodWrites
  rw [decide_eq_true qz8, BX9 (fun k hk => (CG1 (h.keys.subset hk)).1) (List.Pairwise.sublist h.keys keyS_srt), show (l.any fun w => !isStored w.Val w.Gone) = false from List.any_eq_false.2 fun w hw => by rw [h.vals w hw]; decide]; rfl
end Go.M
namespace Go.Proofs.YtcfkbhnpfjjmjaaGreat
open Go Go.AV Go.M
attribute [local irreducible] OpW OpA OpS AWP B9 J5 C8 OpE RetOk H1 I9 Le Ev F6 J9 V9 Int.tmod IntKind.wrap bandI
end Go.Proofs.YtcfkbhnpfjjmjaaGreat
namespace Go.M
open Go.AV
structure OI (n : Int) (l : List AI9) : Prop where
  good : ∀ o ∈ l, orderR o = true ∧ o.Txn < n
  nodup : (l.map AI9.Txn).Nodup
end Go.M
namespace Go.Proofs.YtcfkbhnpfjjmjaaGreat
open Go Go.AV Go.M
attribute [local irreducible] OpW OpA OpS AWP B9 J5 C8 OpE RetOk H1 I9 Le Ev F6 J9 V9 Int.tmod IntKind.wrap bandI
end Go.Proofs.YtcfkbhnpfjjmjaaGreat
namespace Go.M
open Go.AV
end Go.M
namespace Go.Proofs.YtcfkbhnpfjjmjaaGreat
open Go Go.AV Go.M
attribute [local irreducible] OpW OpA OpS AWP B9 J5 C8 OpE RetOk H1 I9 Le Ev F6 J9 V9 Int.tmod IntKind.wrap bandI
theorem w_natc {P : Program} {G : Nat → Prop} {n : Nat} {own : List Go.AV.Own} {o : Oper} {E : K6} {a : Int} (b : Nat) (h : OpW P G n own o E (AV.int a)) (e : a = (b : Int)) : OpW P G n own o E (AV.int (b : Int)) := e ▸ h
end Go.Proofs.YtcfkbhnpfjjmjaaGreat
namespace Go.M
open Go.AV
theorem AQ6 {s : G6} (h : goodState s = true) : s.size ≤ 15000 := by
  have g := AB7.1 h
  have h1 := Ar9 g.cells
  have h2 := a9 (f := E7.size) (c := 400) (l := s.Held) fun k hk => AJ6 (g.good k hk).1
  have h3 := g.hlen
  have h4 := g.tlen
  have h5 : s.Held.length * (400 + 1) ≤ 12 * 401 := Nat.mul_le_mul_right _ h3
  show sizeL C4.size s.Cells + sizeL E7.size s.Held + s.Told.length ≤ 15000
  omega
theorem CJ6 {cuts ks : List Str} {p : Int} (h : p ∈ partsL cuts ks) : 0 ≤ p ∧ p ≤ cuts.length := by
  rcases ((Af8 (cuts := cuts) (ks := ks) (a := []) List.Pairwise.nil).2 p).1 h with h | ⟨k, _, e⟩
  · cases h
  · have := Am9 cuts k
    omega
theorem Aa3 {α : Type} {f : α → Nat} {p : α → Bool} : ∀ {l : List α}, sizeL f (l.filter p) ≤ sizeL f l
  | [] => Nat.le_refl _
  | x :: l => by
    have ih := Aa3 (f := f) (p := p) (l := l)
    cases hp : p x with
    | true => rw [List.filter_cons_of_pos hp, Q7, Q7]; omega
    | false => rw [List.filter_cons_of_neg (by rw [hp]; decide), Q7]; omega
theorem AS7 {α : Type} {p : α → Bool} {l : List α} {i : Nat} {x : α} (h : l[i]? = some x) : (l.take (i + 1)).filter p = (l.take i).filter p ++ (if p x = true then [x] else []) := by
  rw [List.take_add_one, h, List.filter_append]
  cases hp : p x <;> simp [hp]
def inS (cuts : List Str) (part : Int) (k : Str) : Bool := ((partW cuts k : Int) == part)
end Go.M
namespace Go.Proofs.YtcfkbhnpfjjmjaaGreat
open Go Go.AV Go.M
structure DV (d : TDeal) : Prop where
  clen : d.Cuts.length ≤ 2
  ckey : ∀ k ∈ d.Cuts, k.length ≤ 64
  slen : d.States.length = d.Cuts.length + 1
  st : ∀ s ∈ d.States, s.size ≤ 15000
  os : ∀ o ∈ d.Orders, orderR o = true ∧ o.size ≤ 1000
  olen : d.Orders.length ≤ 4
theorem DV.b {d : TDeal} (v : DV d) : DealB d where
  cuts := fun k hk => Nat.le_trans (v.ckey k hk) D0
  clen := Nat.le_trans v.clen D0
  slen := by have := v.slen; have := v.clen; omega
  olen := Nat.le_trans v.olen D0
  states := fun s hs => Nat.le_trans (v.st s hs) D0
  orders := fun o ho => Nat.le_trans (v.os o ho).2 D0
attribute [local irreducible] OpW OpA OpS AWP B9 J5 C8 OpE RetOk H1 I9 Le Ev F6 J9 V9 Int.tmod IntKind.wrap bandI
theorem BY0 (l : List Int) (n : Int) : B9 Tryz.prog 58 [ints l, AV.int n] (AV.bool (l.any fun y => n == y)) := by
 refine B7 Tryz.func58 rfl Tryz.ntmps58 rfl ?_
 refine S0 (t := 0) rfl fun hl => ?_
 try simp only [A5] at hl
 refine R12 ?_
 refine E5 [(1, _), (7, _), (8, _)] _ (fun (i : Nat) => i ≤ l.length ∧ (l.any fun y => n == y) = ((l.drop i).any fun y => n == y)) (fun (i : Nat) => []) (fun (i : Nat) => [(9, AV.int i)]) (fun (i : Nat) => l.length - i) (0) ?_ (F2 ⟨rfl, rfl, rfl, rfl, trivial⟩) ?_
 ·exact ⟨Nat.zero_le _, rfl⟩
 intro i hinv
 refine R5 ?_
 refine A8 (A0 rfl) ?_ ?_
 ·intro h10
  have k10 := of_decide_eq_true h10; try simp only [A5] at k10
  have hlt : i < l.length := by omega
  obtain ⟨x, hx⟩ := get_some hlt
  refine R5 ?_
  refine A4 rfl (C7 rfl B3 B4 (A0 rfl) (A0 rfl) hx qz4) ?_
  refine R9 ?_
  refine A8 (A0 rfl) ?_ ?_
  ·intro h15
   have k15 := D2 h15; try simp only [A5] at k15
   refine R5 ?_
   exact D5 rfl (A6 rfl qz159)
  intro h15
  have k15 := D6 h15; try simp only [A5] at k15
  refine R5 ?_
  refine F3 i (i + 1) ?_ ?_ (F2 ⟨rfl, rfl, rfl, rfl, trivial⟩)
  ·exact ⟨by omega, by rw [hinv.2, drop_some hx, List.any_cons, show (n == x) = false from by simpa using Ne.symm k15]; rfl⟩
  omega
 intro h10
 have k10 := of_decide_eq_false h10; try simp only [A5] at k10
 have hge : l.length ≤ i := by omega
 refine R6 ?_
 exact D5 rfl (A6 rfl qz159)
theorem CC3 (cuts rs : List Str) (ws : List A9) (part : Int) (hr : rs.length ≤ 1000000) (hw : ws.length ≤ 1000000) : C8 Tryz.prog 248 [strs cuts, strs rs, AV.list 3 (ws.map A9.cs), AV.int part] [] (fun _ : Value × Value => True) (fun v => [.arr v.1 9 1 ((rs.filter (inS cuts part)).map fun t => [AV.str t]), .arr v.2 47 3 ((ws.filter fun w => inS cuts part w.Key).map A9.cs)]) (fun v => AV.tup [AV.is v.1, AV.is v.2]) := by
 have hrl : ∀ i, ((rs.take i).filter (inS cuts part)).length ≤ 1000000 := fun i => Nat.le_trans (List.length_filter_le _ _) BF4
 have hwl : ∀ i, ((ws.take i).filter fun w => inS cuts part w.Key).length ≤ 1000000 := fun i => Nat.le_trans (List.length_filter_le _ _) BF4
 refine C3 Tryz.func248 rfl Tryz.ntmps248 rfl ?_
 refine R2 ?_
 refine A4 rfl (D4 rfl F4) ?_
 refine A4 rfl (D4 rfl F4) ?_
 refine R3 ?_
 refine O8 9 1 rfl rfl rfl rfl F4 ?_
 intro v10
 refine R3 ?_
 refine O8 47 3 rfl rfl rfl rfl F4 ?_
 intro v11
 refine R9 ?_
 refine AWP.le (C1 [1, 0] rfl) ?_
 refine J7 [(0, _), (2, _), (3, _), (8, _), (9, _), (11, _), (16, _), (17, _)] _ (fun (i : Nat) (v : Value) => i ≤ rs.length) (fun (i : Nat) (v : Value) => [.arr v 9 1 (((rs.take i).filter (inS cuts part)).map fun t => [AV.str t]), .arr v11 47 3 []]) (fun (i : Nat) (v : Value) => [(10, AV.is v), (18, AV.int i)]) (fun (i : Nat) (v : Value) => rs.length - i) (0) (v10) ?_ (I8 B0 ⟨rfl, rfl, rfl, rfl, rfl, rfl, rfl, rfl, rfl, rfl, trivial⟩) ?_
 ·exact Nat.zero_le _
 intro i v hinv
 refine R5 ?_
 refine A8 (A0 rfl) ?_ ?_
 ·intro h19
  have k19 := of_decide_eq_true h19; try simp only [A5] at k19
  have hlt : i < rs.length := by (simpa using h19)
  obtain ⟨x, hx⟩ := get_some hlt
  have hri := hrl i
  refine R5 ?_
  refine A4 rfl (C7 rfl F7 K1 (A0 rfl) (A0 rfl) hx qz4) ?_
  refine R7 ?_
  refine A4 rfl (B2 rfl Tryz.call170 rfl (AF3 _ _) (A1 (A0 rfl) (A1 (A0 rfl) A7))) ?_
  refine R3 ?_
  refine A8 (A0 rfl) ?_ ?_
  ·intro h26
   have k26 := D2 h26; try simp only [A5] at k26
   refine R4 ?_
   refine G0 (by' := 16) 0 rfl rfl rfl rfl F7 Tryz.type9 rfl rfl rfl rfl rfl rfl (A0 rfl) (A0 rfl) rfl qz4 ?_
   intro v30_1
   refine R6 ?_
   refine G9 i v (i + 1) (v30_1) ?_ ?_ (Le.trans (C1 [0, 0] rfl) (I8 qz111 ⟨rfl, rfl, rfl, rfl, rfl, rfl, rfl, rfl, rfl, rfl, trivial⟩))
   ·exact qz8
   omega
  intro h26
  have k26 := D6 h26; try simp only [A5] at k26
  refine R5 ?_
  refine G9 i v (i + 1) (v) ?_ ?_ (Le.trans (C1 [0, 0] rfl) (I8 qz111 ⟨rfl, rfl, rfl, rfl, rfl, rfl, rfl, rfl, rfl, rfl, trivial⟩))
  ·exact qz8
  omega
 intro h19
 have k19 := of_decide_eq_false h19; try simp only [A5] at k19
 have hge : rs.length ≤ i := by (simpa using h19)
 rw [List.take_of_length_le hge]
 refine R9 ?_
 refine AWP.le (C1 [1, 0] rfl) ?_
 refine J7 [(0, _), (3, _), (8, _), (9, _), (10, _), (32, _), (33, _)] _ (fun (j : Nat) (u : Value) => j ≤ ws.length) (fun (j : Nat) (u : Value) => [.arr u 47 3 (((ws.take j).filter fun w => inS cuts part w.Key).map A9.cs), .arr v 9 1 ((rs.filter (inS cuts part)).map fun t => [AV.str t])]) (fun (j : Nat) (u : Value) => [(11, AV.is u), (34, AV.int j)]) (fun (j : Nat) (u : Value) => ws.length - j) (0) (v11) ?_ (I8 B0 ⟨rfl, rfl, rfl, rfl, rfl, rfl, rfl, rfl, rfl, trivial⟩) ?_
 ·exact Nat.zero_le _
 intro j u hinv
 refine R5 ?_
 refine A8 (A0 rfl) ?_ ?_
 ·intro h35
  have k35 := of_decide_eq_true h35; try simp only [A5] at k35
  have hltj : j < ws.length := by (simpa using h35)
  obtain ⟨y, hy⟩ := get_some hltj
  have hwj := hwl j
  refine R5 ?_
  refine A4 rfl (C7 rfl C0 E9 (A0 rfl) (A0 rfl) hy qz4) ?_
  refine R2 ?_
  intro b15
  refine R7 ?_
  refine A4 rfl (B2 rfl Tryz.call170 rfl (AF3 _ _) (A1 (A0 rfl) (A1 (A0 rfl) A7))) ?_
  refine R3 ?_
  refine A8 (A0 rfl) ?_ ?_
  ·intro h43
   have k43 := D2 h43; try simp only [A5] at k43
   refine R4 ?_
   refine G0 (by' := 40) 1 rfl rfl rfl rfl C0 Tryz.type47 rfl rfl rfl rfl rfl rfl (A0 rfl) (A0 rfl) rfl qz4 ?_
   intro v47_2
   refine R6 ?_
   refine G9 j u (j + 1) (v47_2) ?_ ?_ (Le.trans (C1 [0, 0, 0] rfl) (E3 1 qz106 ⟨rfl, rfl, rfl, rfl, rfl, rfl, rfl, rfl, rfl, trivial⟩))
   ·exact qz8
   omega
  intro h43
  have k43 := D6 h43; try simp only [A5] at k43
  refine R5 ?_
  refine G9 j u (j + 1) (u) ?_ ?_ (Le.trans (C1 [0, 0, 0] rfl) (E3 1 qz106 ⟨rfl, rfl, rfl, rfl, rfl, rfl, rfl, rfl, rfl, trivial⟩))
  ·exact qz8
  omega
 intro h35
 have k35 := of_decide_eq_false h35; try simp only [A5] at k35
 have hgej : ws.length ≤ j := by (simpa using h35)
 rw [List.take_of_length_le hgej]
 refine R9 ?_
 exact G1 [1, 0] (v, u) (trivial) rfl B0 (N4 rfl D0 (B6 (A6 rfl B0) (B6 (A6 rfl B0) E8)))
theorem CC4 (cuts rs : List Str) (ws : List A9) (part : Int) (hr : rs.length ≤ 1000000) (hw : ws.length ≤ 1000000) : B9 Tryz.prog 248 [strs cuts, strs rs, AV.list 3 (ws.map A9.cs), AV.int part] (AV.tup [strs (rs.filter (inS cuts part)), AV.list 3 ((ws.filter fun w => inS cuts part w.Key).map A9.cs)]) :=
  K2 (CC3 cuts rs ws part hr hw) fun v _ => p4 (D1 (J3 (C6 (i := 0) rfl) F5) (D1 (J3 (C6 (i := 1) rfl) F5) V2))
end Go.Proofs.YtcfkbhnpfjjmjaaGreat
namespace Go.M
open Go.AV
def readsR (got : List G4) : List Str := got.foldl (fun a g => putS a g.Key) []
theorem BY1 : ∀ {got : List G4} {a : List Str}, n7 a → n7 (got.foldl (fun a g => putS a g.Key) a)
  | [], a, h => h
  | g :: got, a, h => by rw [List.foldl_cons]; exact BY1 (AZ3 h).1
theorem BY2 : ∀ {got : List G4} {a : List Str}, (got.foldl (fun a g => putS a g.Key) a).length ≤ a.length + got.length
  | [], a => Nat.le_refl _
  | g :: got, a => by rw [List.foldl_cons]; have h1 := BY2 (got := got) (a := putS a g.Key); have h2 := Al8 g.Key a; rw [H6]; omega
theorem BK6 (got : List G4) : n7 (readsR got) := BY1 List.Pairwise.nil
theorem AW7 (got : List G4) : (readsR got).length ≤ got.length := by have := BY2 (got := got) (a := []); simpa [readsR] using this
theorem BK7 {got : List G4} {i : Nat} {g : G4} (h : got[i]? = some g) : readsR (got.take (i + 1)) = putS (readsR (got.take i)) g.Key := by
  unfold readsR
  rw [List.take_add_one, h, List.foldl_append]; rfl
def r3 (cuts : List Str) (t : A3) : List Int := partsL cuts (keysI (readsR t.Got ++ M2 (N9 t.Ops t.Got).2.2))
def AJ2 (t : A3) : Bool := ((N9 t.Ops t.Got).1 == 3) && decide (0 < ((readsR t.Got).length : Int) + ((N9 t.Ops t.Got).2.2.length : Int))
structure SetB (t : A3) : Prop where
  len : t.Ops.length ≤ 1000
  ops : ∀ o ∈ t.Ops, AH6 1000 o
  got : t.Got.length ≤ 1000 ∧ ∀ g ∈ t.Got, g.size ≤ 1000
theorem Av7.sb {n : Nat} {c : Int} {t : A3} (h : Av7 n c t) : SetB t where
  len := by have h9 := h.ops.1; unfold goodOps at h9; rw [Bool.and_eq_true, decide_eq_true_eq] at h9; have := h9.1; omega
  ops := fun o ho => by have h9 := AG6 h.ops.1 o ho; exact ⟨Nat.le_trans h9.size D0, h9.by', h9.key⟩
  got := ⟨Nat.le_trans h.got.1 D0, fun g hg => Nat.le_trans (h.got.2 g hg) D0⟩
theorem BY3 {cuts : List Str} {t : A3} (h : AJ2 t = true) : ∃ p, (r3 cuts t)[0]? = some p := by
  unfold AJ2 at h
  simp only [Bool.and_eq_true, decide_eq_true_eq] at h
  have h0 := h.2
  have hk : ∃ k, k ∈ keysI (readsR t.Got ++ M2 (N9 t.Ops t.Got).2.2) := by
    cases hr : readsR t.Got with
    | cons k r => exact ⟨k, (Ac5 _ _).2 U2⟩
    | nil =>
      cases hw : (N9 t.Ops t.Got).2.2 with
      | cons w r => exact ⟨w.Key, (Ac5 _ _).2 (by simp [M2])⟩
      | nil => rw [hr, hw] at h0; simp at h0
  obtain ⟨k, hk⟩ := hk
  have h1 := ((Af8 (cuts := cuts) (ks := keysI (readsR t.Got ++ M2 (N9 t.Ops t.Got).2.2)) (a := []) List.Pairwise.nil).2 (partW cuts k)).2 (.inr ⟨k, hk, rfl⟩)
  exact get_some (List.length_pos_of_mem h1)
theorem BQ4 {cuts : List Str} {t : A3} {p : Int} (h : p ∈ r3 cuts t) : 0 ≤ p ∧ p ≤ cuts.length := CJ6 h
end Go.M
namespace Go.Proofs.YtcfkbhnpfjjmjaaGreat
open Go Go.AV Go.M
attribute [local irreducible] OpW OpA OpS AWP B9 J5 C8 OpE RetOk H1 I9 Le Ev F6 J9 V9 Int.tmod Int.tdiv IntKind.wrap bandI
theorem BY4 (cuts : List Str) (t : A3) (y : Value × Value) (hb : SetB t) : C8 Tryz.prog 128 [strs cuts, AV.agg (A3.ocs t y)] (A3.ow t y) (fun _ : Unit => True) (fun _ => A3.ow t y) (fun _ => AV.tup [strs (readsR t.Got), AV.list 3 ((N9 t.Ops t.Got).2.2.map A9.cs), ints (r3 cuts t), AV.bool (AJ2 t)]) := by
 have hgl := hb.got.1
 have hrl := AW7 t.Got
 have hst := ran (got := t.Got) (n := 1000) D0 hb.ops
 have hwl : (N9 t.Ops t.Got).2.2.length ≤ 1000 := Nat.le_trans hst.len (by have := hb.len; omega)
 obtain ⟨S, hS⟩ : ∃ S, N9 t.Ops t.Got = S := ⟨_, rfl⟩
 have hstep := Af9 t.Ops y.1 t.Got hb.len hb.ops hb.got.2
 have hbq : AJ2 t = ((N9 t.Ops t.Got).1 == 3 && decide (0 < ((((readsR t.Got).map fun t => [AV.str t]).length : Nat) : Int) + ((((N9 t.Ops t.Got).2.2.map A9.cs).length : Nat) : Int))) := by unfold AJ2; simp only [A5]
 rw [hbq]
 unfold r3
 rw [hS] at hstep hwl ⊢
 have hkl := Ac6 (readsR t.Got ++ M2 S.2.2)
 rw [G2, show (M2 S.2.2).length = S.2.2.length from A5 ..] at hkl
 refine C3 Tryz.func128 rfl Tryz.ntmps128 rfl ?_
 refine R3 ?_
 intro b3
 refine A4 rfl (D4 rfl F4) ?_
 refine A4 rfl (D4 rfl F4) ?_
 refine A4 rfl (D4 rfl F4) ?_
 refine R8 ?_
 refine E4 [1] rfl rfl rfl rfl Tryz.call129 rfl (hstep) (A1 (A0 rfl) (A1 (A0 rfl) A7)) rfl ?_
 intro x19 ok19
 refine R10 ?_
 refine O8 9 1 rfl rfl rfl rfl F4 ?_
 intro v11
 refine R10 ?_
 refine AWP.le (C1 [0, 0] rfl) ?_
 refine J7 [(0, _), (4, _), (5, _), (6, _), (7, _), (8, _), (10, _), (24, _), (25, _)] _ (fun (i : Nat) (v : Value) => i ≤ t.Got.length) (fun (i : Nat) (v : Value) => [.arr v 9 1 ((readsR (t.Got.take i)).map fun t => [AV.str t]), .arr y.1 45 3 (t.Got.map G4.cs)]) (fun (i : Nat) (v : Value) => [(11, AV.is v), (26, AV.int i)]) (fun (i : Nat) (v : Value) => t.Got.length - i) (0) (v11) ?_ (I8 B0 ⟨rfl, rfl, rfl, rfl, rfl, rfl, rfl, rfl, rfl, rfl, rfl, trivial⟩) ?_
 ·exact Nat.zero_le _
 intro i v hinv
 refine R5 ?_
 refine A8 (A0 rfl) ?_ ?_
 ·intro h27
  have k27 := of_decide_eq_true h27; try simp only [A5] at k27
  have hlt : i < t.Got.length := (by simpa using h27)
  obtain ⟨g, hg⟩ := get_some hlt
  have hrs := BK6 (t.Got.take i)
  have hrn := AW7 (t.Got.take i)
  rw [H2] at hrn
  refine R5 ?_
  refine A4 rfl (D7 1 rfl J6 O5 (A0 rfl) rfl (A0 rfl) qz8 g9) ?_
  refine A4 rfl (X5 1 rfl (A0 rfl) rfl AC6 O5 (by first | exact (L9 hg) | exact B5 ((L9 hg)) | exact B5 (B5 ((L9 hg))) | exact B5 (B5 (B5 ((L9 hg)))) | exact B5 (B5 (B5 (B5 ((L9 hg))))) | exact B5 (B5 (B5 (B5 (B5 ((L9 hg))))))) D0) ?_
  refine R1 ?_
  intro b13
  refine R6 ?_
  refine E4 [1] rfl rfl rfl rfl Tryz.call148 rfl (AB1 v (readsR (t.Got.take i)) g.Key hrs qz8) (A1 (A0 rfl) (A1 (A0 rfl) A7)) rfl ?_
  intro x33 ok33
  refine R6 ?_
  refine G9 i v (i + 1) (x33) ?_ ?_ (Le.trans (C1 [1, 0, 0] rfl) (E3 1 (by (rw [BK7 hg]; rfl)) ⟨rfl, rfl, rfl, rfl, rfl, rfl, rfl, rfl, rfl, rfl, rfl, trivial⟩))
  ·exact qz8
  omega
 intro h27
 have k27 := of_decide_eq_false h27; try simp only [A5] at k27
 have hge : t.Got.length ≤ i := (by simpa using h27)
 rw [List.take_of_length_le hge]
 refine R2 ?_
 refine AWP.le (f0 [0] 11 rfl rfl (J3 (C6 (i := 0) rfl) F5) (c9 0 rfl rfl (c9 2 rfl rfl M9))) ?_
 refine R6 ?_
 refine A4 rfl (B2 rfl Tryz.call150 rfl (Ao9 (readsR t.Got) S.2.2 qz8 qz8) (A1 (A0 rfl) (A1 (A0 rfl) A7))) ?_
 refine A4 rfl (B2 rfl Tryz.call149 rfl (Ap0 cuts _ qz8) (A1 (A0 rfl) (A1 (A0 rfl) A7))) ?_
 refine R16 ?_
 exact G1 [0, 1] () (trivial) rfl B0 (N4 rfl D0 (B6 (A6 rfl B0) (B6 (A6 rfl B0) (B6 (A6 rfl B0) (B6 (A6 rfl B0) E8)))))
end Go.Proofs.YtcfkbhnpfjjmjaaGreat
namespace Go.M
open Go.AV
def BM9 (t : A3) (x : M1) (c : Int) : A3 := { t with Yes := x.Yes, Time := x.Time, End := c }
theorem wf_fin {w : TWorld} (hw : WI w) {i : Nat} {t : A3} (ht : w.Txns[i]? = some t) (hq : 0 ≤ t.Begin ∧ t.Begin < w.Count) (x : M1) : WF w (wTxn w i (BM9 t x w.Count)) := by
  have h := hw.txns.2 t (C6 ht)
  have h2 := AT9 hw (i := i) (t := BM9 t x w.Count) ⟨h.terms, h.ops, h.got, h.span.1, .inr ⟨hq.1, hq.2, Int.le_refl _⟩⟩
  exact ⟨h2.1, h2.2, rfl, rfl⟩
theorem An5 {w : TWorld} (hw : WI w) {g : Int} {gi : TGroup} (h0 : 0 ≤ g) (hx : w.Groups[g.toNat]? = some gi) (hl : 0 ≤ gi.Lead) : ∃ c, w.Clocks[(3 * g + gi.Lead).toNat]? = some c ∧ goodClock c = true ∧ gi.Lead < 3 ∧ g ≤ 2 ∧ M.isTrue w.Now = true ∧ -1000000 ≤ (g6 c w.Now).High ∧ (g6 c w.Now).High ≤ 1000000 := by
  have hgi := hw.groups gi (C6 hx)
  have hli := AX5 hgi.good hl
  have h3 := hgi.three
  have hgl := (List.getElem?_eq_some_iff.1 hx).1
  have hng := hw.n
  obtain ⟨c, hc⟩ := get_some (show (3 * g + gi.Lead).toNat < w.Clocks.length by rw [hw.clocks.1]; omega)
  have h9 := hw.clocks.2 c (C6 hc)
  have h8 := hw.now
  refine ⟨c, hc, ?_, by omega, by omega, ?_, ?_, ?_⟩
  · unfold goodClock within; rw [Bool.and_eq_true, decide_eq_true_eq, decide_eq_true_eq]; exact h9
  · unfold M.isTrue within; rw [Bool.and_eq_true, decide_eq_true_eq, decide_eq_true_eq]; exact h8
  · show -1000000 ≤ w.Now + c.Off + 5; omega
  · show w.Now + c.Off + 5 ≤ 1000000; omega
end Go.M
namespace Go.Proofs.YtcfkbhnpfjjmjaaGreat
open Go Go.AV Go.M
attribute [local irreducible] OpW OpA OpS AWP B9 J5 C8 OpE RetOk H1 I9 Le Ev F6 J9 V9 Int.tmod Int.tdiv IntKind.wrap bandI
theorem CC5 (b : Nat) (w : TWorld) (X : WX) (T : List (Value × Value)) (L : List Value) (t : Int) (told : M1) (lead : Int) (gi : TGroup) (hw : WI w) (hq : ∀ tx, w.Txns[(t - 1).toNat]? = some tx → 0 ≤ tx.Begin ∧ tx.Begin < w.Count) (hT : T.length = w.Txns.length) (ht : 1 ≤ t ∧ (t - 1).toNat < w.Txns.length) (h0 : 0 ≤ lead) (hx : w.Groups[lead.toNat]? = some gi) (hl : 0 ≤ gi.Lead) : C8 Tryz.prog 242 [AV.ptr b 0, AV.int t, AV.agg told.cs, AV.int lead] (WB b w X T L) (fun v : TWorld × Bool => WF w v.1) (fun v => WB b v.1 X T L) (fun v => AV.bool v.2) := by
 have hng := hw.n
 have htn := hw.txns.1
 obtain ⟨c, hc, hcg, hl3, hg2, hnow, hsl, hsh⟩ := An5 hw h0 hx hl
 obtain ⟨tx, htx⟩ := get_some ht.2
 obtain ⟨y, hy⟩ := get_some (show (t - 1).toNat < T.length by omega)
 have hls := AV2 b w X T L lead gi c hx qz8 qz8 hc hcg hnow
 have hwf := wf_fin hw htx (hq tx htx) told
 obtain ⟨W', hW⟩ : ∃ W', wTxn w (t - 1).toNat (BM9 tx told w.Count) = W' := ⟨_, rfl⟩
 rw [hW] at hwf
 have hfr := An4 b W' X T L t hwf.wi
 refine C3 Tryz.func242 rfl Tryz.ntmps242 rfl ?_
 refine R3 ?_
 intro b6
 refine R11 ?_
 refine A4 rfl (D7 6 rfl K4 O6 (A0 rfl) rfl (A0 rfl) qz8 (by rw [S8 hT]; omega)) ?_
 refine R12 ?_
 refine M6 rfl (O4 rfl rfl rfl) (fun hc => X6 [1, 1, 1, 1, 1, 1, 1] 1 (nin A3.ow w.Txns T ++ nin A2.ow w.Looks L) ([]) rfl Tryz.call244 rfl rfl (B8) (hls) (A1 (B1 rfl hc) (A1 (B1 rfl hc) A7))) ?_
 refine M6 rfl (O4 rfl rfl rfl) (fun hc => BG2 rfl Tryz.underlying218 rfl H3 (B1 rfl hc) rfl) ?_
 refine R3 ?_
 refine A8 (A0 rfl) ?_ ?_
 ·intro h28
  refine R5 ?_
  exact H4 [1, 1, 1, 1, 1, 1, 1] 1 (nin A3.ow w.Txns T ++ nin A2.ow w.Looks L) [] ((w, false)) ((by first | exact WF.refl hw | exact hwf.trans (AS6 hwf.wi ok49))) rfl (show List.Perm (nin A3.ow w.Txns T ++ nin A2.ow w.Looks L) ((nin A3.ow w.Txns T ++ nin A2.ow w.Looks L) ++ []) from B8) B0 (E6 rfl (A6 rfl B0))
 intro h28
 refine R6 ?_
 refine A4 rfl (T1 6 rfl (A0 rfl) rfl qz2 rfl) ?_
 refine A4 rfl (J2 6 rfl H8 rfl O9 (A0 rfl) rfl rfl qz2) ?_
 refine T3 6 rfl rfl rfl (A0 rfl) (A0 rfl) (y7 _) rfl O9 qz2 rfl ?_
 refine R6 ?_
 refine A4 rfl (T1 6 rfl (A0 rfl) rfl qz2 rfl) ?_
 refine A4 rfl (J2 6 rfl H8 rfl B4 (A0 rfl) rfl rfl qz2) ?_
 refine T3 6 rfl rfl rfl (A0 rfl) (A0 rfl) (M5 _ _) rfl B4 qz2 rfl ?_
 refine R9 ?_
 refine A4 rfl (T1 6 rfl (A0 rfl) rfl qz2 rfl) ?_
 refine A4 rfl (J2 6 rfl H8 rfl B4 (A0 rfl) rfl rfl qz2) ?_
 refine T3 6 rfl rfl rfl (A0 rfl) (A0 rfl) (M5 _ _) rfl B4 qz2 rfl ?_
 refine R2 ?_
 refine I5 (show _ = Go.AV.Own.box b6 148 told.cs :: WB b W' X T L from (by rw [← hW]; unfold WB wTxn; dsimp only; simp only [List.set_set]; rw [l4 htx hy, AF2 (p' := BM9 tx told w.Count) htx (fun _ => rfl)]; rfl)) ?_
 refine R3 ?_
 refine I2 [1, 1, 1, 1, 1, 1, 1] 1 7 (nin A3.ow W'.Txns T ++ nin A2.ow W'.Looks L) ([]) (fun zz => nin A3.ow W'.Txns T ++ nin A2.ow W'.Looks L) rfl rfl rfl rfl Tryz.call198 rfl rfl (show List.Perm (nin A3.ow W'.Txns T ++ nin A2.ow W'.Looks L) ((nin A3.ow W'.Txns T ++ nin A2.ow W'.Looks L) ++ ([])) from B8) (hfr) (A1 (A0 rfl) (A1 (A0 rfl) A7)) (fun a => K0) ?_
 intro x49 ok49
 refine R6 ?_
 exact H4 [0, 0, 0, 0, 0, 0, 0] 1 (nin A3.ow W'.Txns T ++ nin A2.ow W'.Looks L) [] ((t6 W' x49, true)) ((by first | exact WF.refl hw | exact hwf.trans (AS6 hwf.wi ok49))) rfl (show List.Perm (nin A3.ow W'.Txns T ++ nin A2.ow W'.Looks L) ((nin A3.ow W'.Txns T ++ nin A2.ow W'.Looks L) ++ []) from B8) B0 (E6 rfl (A6 rfl B0))
theorem Bl5 (b : Nat) (w : TWorld) (X : WX) (T : List (Value × Value)) (L : List Value) (t lead : Int) (gi : TGroup) (hw : WI w) (hq : ∀ tx, w.Txns[(t - 1).toNat]? = some tx → 0 ≤ tx.Begin ∧ tx.Begin < w.Count) (hT : T.length = w.Txns.length) (ht : 1 ≤ t ∧ (t - 1).toNat < w.Txns.length) (h0 : 0 ≤ lead) (hx : w.Groups[lead.toNat]? = some gi) : C8 Tryz.prog 228 [AV.ptr b 0, AV.int t, AV.int lead] (WB b w X T L) (fun v : TWorld × Bool × Bool => WF w v.1) (fun v => WB b v.1 X T L) (fun v => AV.tup [AV.bool v.2.1, AV.bool v.2.2]) := by
 have hgi := hw.groups gi (C6 hx)
 have hng := hw.n
 have hgl := (List.getElem?_eq_some_iff.1 hx).1
 refine C3 Tryz.func228 rfl Tryz.ntmps228 rfl ?_
 refine R14 ?_
 refine A4 rfl (D7 2 rfl G8 C9 (A0 rfl) rfl (A0 rfl) qz8 g9) ?_
 refine A4 rfl (X5 2 rfl (A0 rfl) rfl K3 C9 qz5 D0) ?_
 refine A4 rfl (B2 rfl Tryz.call200 rfl (j3 gi hgi.good) (A1 (A0 rfl) A7)) ?_
 refine R2 ?_
 refine A8 (A0 rfl) ?_ ?_
 ·intro h19
  refine R6 ?_
  exact H4 [0, 0, 0, 0, 0, 0, 0] 0 (nin A3.ow w.Txns T ++ nin A2.ow w.Looks L) [] ((w, false, false)) ((by first | exact WF.refl hw | exact ok34)) rfl (show List.Perm (nin A3.ow w.Txns T ++ nin A2.ow w.Looks L) ((nin A3.ow w.Txns T ++ nin A2.ow w.Looks L) ++ []) from B8) B0 (N4 rfl D0 (B6 (A6 rfl B0) (B6 (A6 rfl B0) E8)))
 intro h19
 have hrd : q7 gi = true := (by simpa using h19)
 have hl := k6 hrd
 have hgs := AJ5 hgi.good hl
 have htl := hgs.tlen
 refine R5 ?_
 refine A4 rfl (X6 [0, 0, 0, 0, 0, 0, 0] 0 (nin A3.ow w.Txns T ++ nin A2.ow w.Looks L) ([]) rfl Tryz.call202 rfl rfl (B8) (AM1 b w X T L lead gi hx h0 hgi.good hl) (A1 (A0 rfl) (A1 (A0 rfl) A7))) ?_
 refine R1 ?_
 refine A4 rfl (B2 rfl Tryz.call147 rfl (m3 (leadSure gi) t qz8) (A1 (A0 rfl) (A1 (A0 rfl) A7))) ?_
 refine R4 ?_
 intro b8
 refine R9 ?_
 refine A8 (A0 rfl) ?_ ?_
 ·intro h29
  refine R6 ?_
  exact H4 [1, 1, 1, 1, 1, 1, 1] 1 (nin A3.ow w.Txns T ++ nin A2.ow w.Looks L) [] ((w, false, false)) ((by first | exact WF.refl hw | exact ok34)) rfl (show List.Perm (nin A3.ow w.Txns T ++ nin A2.ow w.Looks L) ((nin A3.ow w.Txns T ++ nin A2.ow w.Looks L) ++ []) from B8) B0 (N4 rfl D0 (B6 (A6 rfl B0) (B6 (A6 rfl B0) E8)))
 intro h29
 refine R7 ?_
 refine I2 [1, 1, 1, 1, 1, 1, 1] 1 7 (nin A3.ow w.Txns T ++ nin A2.ow w.Looks L) ([]) (fun zz => nin A3.ow zz.1.Txns T ++ nin A2.ow zz.1.Looks L) rfl rfl rfl rfl Tryz.call242 rfl rfl (show List.Perm (nin A3.ow w.Txns T ++ nin A2.ow w.Looks L) ((nin A3.ow w.Txns T ++ nin A2.ow w.Looks L) ++ ([])) from B8) (CC5 b w X T L t _ lead gi hw hq hT ht h0 hx hl) (A1 (A0 rfl) (A1 (A0 rfl) (A1 (A0 rfl) (A1 (A0 rfl) A7)))) (fun a => K0) ?_
 intro x34 ok34
 refine R4 ?_
 exact H4 [0, 0, 0, 0, 0, 0, 0] 1 (nin A3.ow x34.1.Txns T ++ nin A2.ow x34.1.Looks L) [] ((x34.1, x34.2, true)) ((by first | exact WF.refl hw | exact ok34)) rfl (show List.Perm (nin A3.ow x34.1.Txns T ++ nin A2.ow x34.1.Looks L) ((nin A3.ow x34.1.Txns T ++ nin A2.ow x34.1.Looks L) ++ []) from B8) B0 (N4 rfl D0 (B6 (A6 rfl B0) (B6 (A6 rfl B0) E8)))
theorem CC6 (b : Nat) (w : TWorld) (X : WX) (T : List (Value × Value)) (L : List Value) (t lead : Int) (yes : Bool) (times : List Int) (gi : TGroup) (hw : WI w) (h0 : 0 ≤ lead) (hx : w.Groups[lead.toNat]? = some gi) : C8 Tryz.prog 229 [AV.ptr b 0, AV.int t, AV.int lead, AV.bool yes, ints times] (WB b w X T L) (fun v : TGroup × Bool => WG v.1) (fun v => WB b (wGroup w lead.toNat v.1) X T L) (fun v => AV.bool v.2) := by
 have hgi := hw.groups gi (C6 hx)
 have hng := hw.n
 have hgl := (List.getElem?_eq_some_iff.1 hx).1
 refine C3 Tryz.func229 rfl Tryz.ntmps229 rfl ?_
 refine R13 ?_
 refine A4 rfl (D7 2 rfl G8 C9 (A0 rfl) rfl (A0 rfl) qz8 g9) ?_
 refine A4 rfl (X5 2 rfl (A0 rfl) rfl K3 C9 qz5 D0) ?_
 refine A4 rfl (B2 rfl Tryz.call200 rfl (j3 gi hgi.good) (A1 (A0 rfl) A7)) ?_
 refine R2 ?_
 refine A8 (A0 rfl) ?_ ?_
 ·intro h23
  refine R5 ?_
  exact H4 [0, 0, 0, 0, 0, 0, 0] 0 (nin A3.ow w.Txns T ++ nin A2.ow w.Looks L) [] ((gi, false)) (Ap8) rfl (show List.Perm (nin A3.ow w.Txns T ++ nin A2.ow w.Looks L) ((nin A3.ow w.Txns T ++ nin A2.ow w.Looks L) ++ []) from B8) Ap9 (E6 rfl (A6 rfl B0))
 intro h23
 have hrd : q7 gi = true := Ai2
 have hl := k6 hrd
 have hgs := n6 hgi.good hl
 have htl := hgs.tlen
 obtain ⟨c, hc, hcg, hl3, hg2, hnow, hsl, hsh⟩ := An5 hw h0 hx hl
 refine R6 ?_
 refine A4 rfl (X6 [0, 0, 0, 0, 0, 0, 0] 0 (nin A3.ow w.Txns T ++ nin A2.ow w.Looks L) ([]) rfl Tryz.call180 rfl rfl (B8) (AA4 b w X T L lead gi hx h0 hgi.good hl) (A1 (A0 rfl) (A1 (A0 rfl) A7))) ?_
 refine R1 ?_
 refine A4 rfl (B2 rfl Tryz.call147 rfl (m3 (leadFull gi) t qz8) (A1 (A0 rfl) (A1 (A0 rfl) A7))) ?_
 refine R4 ?_
 intro b11
 refine R7 ?_
 refine A8 (A0 rfl) ?_ ?_
 ·intro h32
  refine R4 ?_
  refine I2 [1, 1, 1, 1, 1, 1, 1] 1 7 (nin A3.ow w.Txns T ++ nin A2.ow w.Looks L) ([]) (fun zz => nin A3.ow w.Txns T ++ nin A2.ow w.Looks L) rfl rfl rfl rfl Tryz.call184 rfl rfl (show List.Perm (nin A3.ow w.Txns T ++ nin A2.ow w.Looks L) ((nin A3.ow w.Txns T ++ nin A2.ow w.Looks L) ++ ([])) from B8) (AG8 b w X T L lead gi hx h0 hgi) (A1 (A0 rfl) (A1 (A0 rfl) A7)) (fun a => K0) ?_
  intro x35 ok35
  refine R6 ?_
  exact H4 [0, 0, 0, 0, 0, 0, 0] 1 (nin A3.ow w.Txns T ++ nin A2.ow w.Looks L) [] ((x35, true)) (Ap8) rfl (show List.Perm (nin A3.ow w.Txns T ++ nin A2.ow w.Looks L) ((nin A3.ow w.Txns T ++ nin A2.ow w.Looks L) ++ []) from B8) Ap9 (E6 rfl (A6 rfl B0))
 intro h32
 refine R6 ?_
 intro b13
 refine R7 ?_
 refine A8 (A0 rfl) ?_ ?_
 ·intro h38
  have hput := AG9 b w X T L lead ⟨2, t, maxAll ((g6 c w.Now).High + 1) times, 0, [], [], true⟩ gi hx h0 hgi (show (0 : Nat) ≤ 1000 from by decide) (fun w9 hw9 => by cases hw9)
  refine R9 ?_
  refine A4 rfl (X6 [2, 2, 2, 2, 2, 2, 2] 2 (nin A3.ow w.Txns T ++ nin A2.ow w.Looks L) ([]) rfl Tryz.call244 rfl rfl (B8) (AV2 b w X T L lead gi c hx qz8 qz8 hc hcg hnow) (A1 (A0 rfl) (A1 (A0 rfl) A7))) ?_
  refine A4 rfl (B2 rfl Tryz.call243 rfl (BQ1 times (g6 c w.Now) ⟨hsh, hsl⟩) (A1 (A0 rfl) (A1 (A0 rfl) A7))) ?_
  refine R8 ?_
  refine I2 [2, 2, 2, 2, 2, 2, 2] 2 7 (nin A3.ow w.Txns T ++ nin A2.ow w.Looks L) ([]) (fun zz => nin A3.ow w.Txns T ++ nin A2.ow w.Looks L) rfl rfl rfl rfl Tryz.call178 rfl rfl (show List.Perm (nin A3.ow w.Txns T ++ nin A2.ow w.Looks L) ((nin A3.ow w.Txns T ++ nin A2.ow w.Looks L) ++ ([])) from B8) (hput) (A1 (A0 rfl) (A1 (A0 rfl) (A1 (i9 (A0 rfl) AM2) A7))) (fun a => K0) ?_
  intro x49 ok49
  refine R3 ?_
  exact H4 [0, 0, 0, 0, 0, 0, 0] 2 (nin A3.ow w.Txns T ++ nin A2.ow w.Looks L) [] ((x49.1, x49.2)) (Ap8) rfl (show List.Perm (nin A3.ow w.Txns T ++ nin A2.ow w.Looks L) ((nin A3.ow w.Txns T ++ nin A2.ow w.Looks L) ++ []) from B8) Ap9 (E6 rfl (A6 rfl B0))
 intro h38
 have hput := AG9 b w X T L lead ⟨2, t, 0, 0, [], [], false⟩ gi hx h0 hgi (show (0 : Nat) ≤ 1000 from by decide) (fun w9 hw9 => by cases hw9)
 refine R6 ?_
 refine I2 [2, 2, 2, 2, 2, 2, 2] 2 7 (nin A3.ow w.Txns T ++ nin A2.ow w.Looks L) ([]) (fun zz => nin A3.ow w.Txns T ++ nin A2.ow w.Looks L) rfl rfl rfl rfl Tryz.call178 rfl rfl (show List.Perm (nin A3.ow w.Txns T ++ nin A2.ow w.Looks L) ((nin A3.ow w.Txns T ++ nin A2.ow w.Looks L) ++ ([])) from B8) (hput) (A1 (A0 rfl) (A1 (A0 rfl) (A1 (i9 (A0 rfl) AM2) A7))) (fun a => K0) ?_
 intro x49 ok49
 refine R3 ?_
 exact H4 [0, 0, 0, 0, 0, 0, 0] 2 (nin A3.ow w.Txns T ++ nin A2.ow w.Looks L) [] ((x49.1, x49.2)) (Ap8) rfl (show List.Perm (nin A3.ow w.Txns T ++ nin A2.ow w.Looks L) ((nin A3.ow w.Txns T ++ nin A2.ow w.Looks L) ++ []) from B8) Ap9 (E6 rfl (A6 rfl B0))
end Go.Proofs.YtcfkbhnpfjjmjaaGreat
namespace Go.M
open Go.AV
theorem BK8 {l : List C4} (h : goodCells l = true) (k : Str) (t : Int) : (cellAt l k t).1.length ≤ 24 := by
  unfold cellAt
  split
  · rename_i c hc
    obtain ⟨_, _, h3⟩ := i4 h
    have hm : c ∈ l := by unfold findC at hc; exact List.mem_of_find?_eq_some hc
    unfold cellVal
    split
    · rename_i v hv
      have h9 := (h3 c hm).2.2.2.2 v (List.mem_reverse.1 (List.mem_of_find?_eq_some hv))
      unfold verGood isStored goodVal at h9; simp only [Bool.and_eq_true, decide_eq_true_eq] at h9; dsimp only; omega
    · exact Nat.zero_le _
  · exact Nat.zero_le _
def t7 (t : A3) (g : G4) : A3 := { t with Got := t.Got ++ [g] }
theorem wf_got {w : TWorld} (hw : WI w) {i : Nat} {t : A3} (ht : w.Txns[i]? = some t) {g : G4} (hl : t.Got.length < 8) (hg : g.size ≤ 64) : WF w (wTxn w i (t7 t g)) := by
  have h := hw.txns.2 t (C6 ht)
  have h2 := AT9 hw (i := i) (t := t7 t g) ⟨h.terms, h.ops, ⟨by show (t.Got ++ [g]).length ≤ 8; rw [G2]; simp; omega, fun x hx => by
    rcases List.mem_append.1 (show x ∈ t.Got ++ [g] from hx) with hx | hx
    · exact h.got.2 x hx
    · rw [List.mem_singleton.1 hx]; exact hg⟩, h.span⟩
  exact ⟨h2.1, h2.2, rfl, rfl⟩
theorem BK9 {w : TWorld} (hw : WI w) (k : Str) : ∃ gi, w.Groups[((partW w.Cuts k : Nat) : Int).toNat]? = some gi ∧ (partW w.Cuts k : Nat) < w.Groups.length := by
  have h1 := Am9 w.Cuts k
  have h2 := hw.cuts.1
  obtain ⟨gi, hg⟩ := get_some (show ((partW w.Cuts k : Nat) : Int).toNat < w.Groups.length by omega)
  exact ⟨gi, hg, by omega⟩
end Go.M
namespace Go.Proofs.YtcfkbhnpfjjmjaaGreat
open Go Go.AV Go.M
attribute [local irreducible] OpW OpA OpS AWP B9 J5 C8 OpE RetOk H1 I9 Le Ev F6 J9 V9 Int.tmod Int.tdiv IntKind.wrap bandI
theorem AH0 {α : Type} {a b c : List α} (e : a = b) (h : b.Perm c) : a.Perm c := e ▸ h
theorem read_own (b : Nat) (w : TWorld) (X : WX) (T : List (Value × Value)) (L : List Value) (t : Int) (k : Str) (hw : WI w) (hT : T.length = w.Txns.length) (ht : 1 ≤ t ∧ (t - 1).toNat < w.Txns.length) (hk : k.length ≤ 12) : C8 Tryz.prog 211 [AV.ptr b 0, AV.int t, AV.str k] (WB b w X T L) (fun v : (TWorld × Bool) × List (Value × Value) => WF w v.1.1 ∧ v.2.length = T.length) (fun v => WB b v.1.1 X v.2 L) (fun v => AV.bool v.1.2) := by
 have hng := hw.n
 have htn := hw.txns.1
 obtain ⟨p, hp⟩ : ∃ p : Nat, partW w.Cuts k = p := ⟨_, rfl⟩
 obtain ⟨gi, hx, hgl⟩ := BK9 hw k
 rw [hp] at hx hgl
 have hgi := hw.groups gi (C6 hx)
 obtain ⟨tx, htx⟩ := get_some ht.2
 obtain ⟨y, hy⟩ := get_some (show (t - 1).toNat < T.length by omega)
 have htk := hw.txns.2 tx (C6 htx)
 obtain ⟨n, hn⟩ := get_some (show ((p : Nat) : Int).toNat < tx.Terms.length by rw [htk.terms]; omega)
 have hlate := BX2 b w X T L (p : Int) t tx y n gi htx hy hT qz8 qz8 hn hx
 have hpart : B9 Tryz.prog 170 [strs w.Cuts, AV.str k] (AV.int ((p : Nat) : Int)) := by rw [← hp]; exact AF3 w.Cuts k
 refine C3 Tryz.func211 rfl Tryz.ntmps211 rfl ?_
 refine R12 ?_
 refine A4 rfl (B2 rfl Tryz.call170 rfl (hpart) (A1 (A0 rfl) (A1 (A0 rfl) A7))) ?_
 refine R11 ?_
 refine A4 rfl (D7 2 rfl G8 C9 (A0 rfl) rfl (A0 rfl) qz8 AM8) ?_
 refine A4 rfl (X5 2 rfl (A0 rfl) rfl K3 C9 qz5 D0) ?_
 refine A4 rfl (B2 rfl Tryz.call200 rfl (j3 gi hgi.good) (A1 (A0 rfl) A7)) ?_
 refine R2 ?_
 refine A8 (A0 rfl) ?_ ?_
 ·intro h26
  refine R5 ?_
  exact H4 [0, 0, 0, 0, 0, 0, 0] 0 (nin A3.ow w.Txns T ++ nin A2.ow w.Looks L) [] (((w, false), T)) (BC1) rfl (show List.Perm (nin A3.ow w.Txns T ++ nin A2.ow w.Looks L) ((nin A3.ow w.Txns T ++ nin A2.ow w.Looks L) ++ []) from B8) BB7 (E6 rfl (A6 rfl B0))
 intro h26
 have hrd : q7 gi = true := (by simpa using h26)
 have hl := k6 hrd
 refine R7 ?_
 refine A4 rfl (X6 [0, 0, 0, 0, 0, 0, 0] 0 (nin A3.ow w.Txns T ++ nin A2.ow w.Looks L) ([]) rfl Tryz.call230 rfl rfl (B8) (hlate) (A1 (A0 rfl) (A1 (A0 rfl) (A1 (A0 rfl) A7)))) ?_
 refine R1 ?_
 refine A8 (A0 rfl) ?_ ?_
 ·intro h30
  refine R4 ?_
  refine I2 [0, 0, 0, 0, 0, 0, 0] 0 7 (nin A3.ow w.Txns T ++ nin A2.ow w.Looks L) ([]) (fun zz => nin A3.ow zz.Txns T ++ nin A2.ow zz.Looks L) rfl rfl rfl rfl Tryz.call212 rfl rfl (show List.Perm (nin A3.ow w.Txns T ++ nin A2.ow w.Looks L) ((nin A3.ow w.Txns T ++ nin A2.ow w.Looks L) ++ ([])) from B8) (AX6 b w X T L t hw hT qz8) (A1 (A0 rfl) (A1 (A0 rfl) A7)) (fun a => K0) ?_
  intro x33 ok33
  refine R6 ?_
  exact H4 [0, 0, 0, 0, 0, 0, 0] 0 (nin A3.ow x33.Txns T ++ nin A2.ow x33.Looks L) [] (((x33, true), T)) (BC1) rfl (show List.Perm (nin A3.ow x33.Txns T ++ nin A2.ow x33.Looks L) ((nin A3.ow x33.Txns T ++ nin A2.ow x33.Looks L) ++ []) from B8) BB7 (E6 rfl (A6 rfl B0))
 intro h30
 refine R8 ?_
 refine I2 [0, 0, 0, 0, 0, 0, 0] 0 7 (nin A3.ow w.Txns T ++ nin A2.ow w.Looks L) ([]) (fun zz => nin A3.ow zz.1.Txns T ++ nin A2.ow zz.1.Looks L) rfl rfl rfl rfl Tryz.call231 rfl rfl (show List.Perm (nin A3.ow w.Txns T ++ nin A2.ow w.Looks L) ((nin A3.ow w.Txns T ++ nin A2.ow w.Looks L) ++ ([])) from B8) (Bk8 b w X T L (p : Int) t k false gi hw hT ht qz8 hx hl hk) (A1 (A0 rfl) (A1 (A0 rfl) (A1 (A0 rfl) (A1 (A0 rfl) (A1 w5 A7))))) (fun a => K0) ?_
 intro x38 ok38
 refine R2 ?_
 refine A8 (A0 rfl) ?_ ?_
 ·intro h39
  refine R5 ?_
  exact H4 [0, 0, 0, 0, 0, 0, 0] 0 (nin A3.ow x38.1.Txns T ++ nin A2.ow x38.1.Looks L) [] (((x38.1, false), T)) (BC1) rfl (show List.Perm (nin A3.ow x38.1.Txns T ++ nin A2.ow x38.1.Looks L) ((nin A3.ow x38.1.Txns T ++ nin A2.ow x38.1.Looks L) ++ []) from B8) BB7 (E6 rfl (A6 rfl B0))
 intro h39
 have hx : x38.1.Groups[((p : Nat) : Int).toNat]? = some gi := (by rw [ok38.gr]; exact hx)
 have hT : T.length = x38.1.Txns.length := (hT.trans ok38.ws.txns.symm)
 obtain ⟨tx, htx⟩ := get_some (show (t - 1).toNat < x38.1.Txns.length by omega)
 have htk := ok38.wi.txns.2 tx (C6 htx)
 have hgs := AJ5 hgi.good hl
 have hcs := Ar9 hgs.cells
 have hcl := BK8 hgs.cells k 100000
 refine R5 ?_
 refine A4 rfl (X6 [0, 0, 0, 0, 0, 0, 0] 0 (nin A3.ow x38.1.Txns T ++ nin A2.ow x38.1.Looks L) ([]) rfl Tryz.call202 rfl rfl (B8) (AM1 b x38.1 X T L (p : Int) gi hx qz8 hgi.good hl) (A1 (A0 rfl) (A1 (A0 rfl) A7))) ?_
 refine A4 rfl (BG2 rfl d3 rfl Tryz.isAgg179 (A0 rfl) rfl) ?_
 refine R1 ?_
 refine A4 rfl (B2 rfl Tryz.call203 rfl (BA3 (leadSure gi).Cells k 100000 qz8) (A1 (A0 rfl) (A1 (A0 rfl) (A1 D8 A7)))) ?_
 refine R12 ?_
 refine A8 (A0 rfl) ?_ ?_
 ·intro h50
  obtain ⟨G, hG⟩ : ∃ G : G4, G = ⟨k, [], (cellAt (leadSure gi).Cells k 100000).2⟩ := ⟨_, rfl⟩
  have hGs : G.size ≤ 64 := (by rw [hG]; unfold G4.size; simp only [N1]; omega)
  refine R1 ?_
  refine A4 rfl (D4 rfl (L4 (l := []) rfl)) ?_
  refine R3 ?_
  refine I5 w8 ?_
  refine AWP.le (O2 7 (t := ([Go.AV.Own.arr y.1 45 3 (tx.Got.map G4.cs), Go.AV.Own.arr y.2 3 1 (tx.Terms.map fun n => [AV.int n])]) ++ (nin A3.ow (x38.1.Txns.eraseIdx (t - 1).toNat) (T.eraseIdx (t - 1).toNat) ++ nin A2.ow x38.1.Looks L)) (s9 htx hy)) ?_
  refine R8 ?_
  refine A4 rfl (D7 5 rfl K4 O6 (A0 rfl) rfl (A0 rfl) qz8 AM8) ?_
  refine A4 rfl (J2 5 rfl H8 rfl O0 (A0 rfl) rfl rfl qz2) ?_
  refine A4 rfl (K5 5 rfl (A0 rfl) rfl Z2 qz2 rfl) ?_
  refine R3 ?_
  refine A8 (A0 rfl) ?_ ?_
  ·intro h62
   have k62 := of_decide_eq_true h62; try simp only [A5] at k62
   refine AWP.le (C1 [0, 0, 0, 0, 0, 0, 0, 0, 0] rfl) ?_
   refine AWP.le (O2 7 (t := nin A3.ow x38.1.Txns T ++ nin A2.ow x38.1.Looks L) ((s9 htx hy).symm)) ?_
   refine R5 ?_
   exact H4 [0, 0, 0, 0, 0, 0, 0] 0 (nin A3.ow x38.1.Txns T ++ nin A2.ow x38.1.Looks L) [] (((x38.1, false), T)) (BC1) rfl (show List.Perm (nin A3.ow x38.1.Txns T ++ nin A2.ow x38.1.Looks L) ((nin A3.ow x38.1.Txns T ++ nin A2.ow x38.1.Looks L) ++ []) from B8) BB7 (E6 rfl (A6 rfl B0))
  intro h62
  have k62 := of_decide_eq_false h62; try simp only [A5] at k62
  refine R2 ?_
  refine I5 w8 ?_
  refine AWP.le (C1 [0, 4, 5] rfl) ?_
  refine M7 _ [(0, false), (1, false), (2, false), (3, false), (4, false), (5, false), (6, false), (7, false), (8, false), (9, false), (10, false), (11, false), (12, false), (13, false), (14, false), (15, false), (16, false), (17, false), (18, false), (19, false), (20, false), (21, false), (22, true)] F1 F1 rfl (P1 2) ?_
  refine R14 ?_
  refine M8 rfl rfl rfl (fun ext => D7 1 rfl K4 O6 (A0 rfl) rfl (A0 rfl) qz8 AM8) ?_
  refine M8 rfl rfl rfl (fun ext => J2 1 rfl H8 rfl O0 (A0 rfl) rfl rfl qz2) ?_
  refine M8 rfl rfl rfl (fun ext => K5 1 rfl (A0 rfl) rfl Z2 qz2 rfl) ?_
  refine R5 ?_
  refine S1 rfl rfl rfl (J8 (by' := 40) 2 rfl J6 Tryz.type45 rfl rfl rfl rfl rfl rfl (A0 rfl) (A0 rfl) rfl qz4) (fun a _ => qz3) ?_
  intro v85_1 _
  refine R1 ?_
  refine A4 rfl (D7 1 rfl K4 O6 (A0 rfl) rfl (A0 rfl) qz8 AM8) ?_
  refine A4 rfl (J2 1 rfl H8 rfl O0 (A0 rfl) rfl rfl qz2) ?_
  refine S4 2 rfl fun one_v85_1 => ?_
  refine T3 1 rfl rfl rfl (A0 rfl) (A0 rfl) (M0 one_v85_1) rfl O0 qz2 rfl ?_
  refine R2 ?_
  refine I5 w8 ?_
  refine AWP.le (C1 [0, 0, 1, 1, 1, 1, 1, 0, 0] rfl) ?_
  refine AWP.le (O2 7 (t := nin A3.ow (x38.1.Txns.set (t - 1).toNat (t7 tx G)) (T.set (t - 1).toNat (v85_1, y.2)) ++ nin A2.ow x38.1.Looks L) ((AH0 (b := [Go.AV.Own.arr v85_1 45 3 ((tx.Got ++ [G]).map G4.cs), Go.AV.Own.arr y.2 3 1 (tx.Terms.map fun n => [AV.int n])] ++ (nin A3.ow (x38.1.Txns.eraseIdx (t - 1).toNat) (T.eraseIdx (t - 1).toNat) ++ nin A2.ow x38.1.Looks L)) Bd1 (BK1 (w := x38.1) (L := L) (p' := t7 tx G) (y' := (v85_1, y.2)) htx hy)))) ?_
  refine R4 ?_
  exact H4 [0, 1, 1, 1, 1, 0, 0] 0 (nin A3.ow (x38.1.Txns.set (t - 1).toNat (t7 tx G)) (T.set (t - 1).toNat (v85_1, y.2)) ++ nin A2.ow x38.1.Looks L) [] (((wTxn x38.1 (t - 1).toNat (t7 tx G), true), T.set (t - 1).toNat (v85_1, y.2))) (BC1) rfl (show List.Perm (nin A3.ow (x38.1.Txns.set (t - 1).toNat (t7 tx G)) (T.set (t - 1).toNat (v85_1, y.2)) ++ nin A2.ow x38.1.Looks L) ((nin A3.ow (x38.1.Txns.set (t - 1).toNat (t7 tx G)) (T.set (t - 1).toNat (v85_1, y.2)) ++ nin A2.ow x38.1.Looks L) ++ []) from B8) BB7 (E6 rfl (A6 rfl B0))
 intro h50
 obtain ⟨G, hG⟩ : ∃ G : G4, G = ⟨k, (cellAt (leadSure gi).Cells k 100000).1, (cellAt (leadSure gi).Cells k 100000).2⟩ := ⟨_, rfl⟩
 have hGs : G.size ≤ 64 := (by rw [hG]; unfold G4.size; dsimp only; omega)
 refine R3 ?_
 refine I5 w8 ?_
 refine AWP.le (O2 7 (t := ([Go.AV.Own.arr y.1 45 3 (tx.Got.map G4.cs), Go.AV.Own.arr y.2 3 1 (tx.Terms.map fun n => [AV.int n])]) ++ (nin A3.ow (x38.1.Txns.eraseIdx (t - 1).toNat) (T.eraseIdx (t - 1).toNat) ++ nin A2.ow x38.1.Looks L)) (s9 htx hy)) ?_
 refine R8 ?_
 refine A4 rfl (D7 5 rfl K4 O6 (A0 rfl) rfl (A0 rfl) qz8 AM8) ?_
 refine A4 rfl (J2 5 rfl H8 rfl O0 (A0 rfl) rfl rfl qz2) ?_
 refine A4 rfl (K5 5 rfl (A0 rfl) rfl Z2 qz2 rfl) ?_
 refine R3 ?_
 refine A8 (A0 rfl) ?_ ?_
 ·intro h62
  have k62 := of_decide_eq_true h62; try simp only [A5] at k62
  refine AWP.le (C1 [0, 0, 0, 0, 0, 0, 0, 0, 0] rfl) ?_
  refine AWP.le (O2 7 (t := nin A3.ow x38.1.Txns T ++ nin A2.ow x38.1.Looks L) ((s9 htx hy).symm)) ?_
  refine R5 ?_
  exact H4 [0, 0, 0, 0, 0, 0, 0] 0 (nin A3.ow x38.1.Txns T ++ nin A2.ow x38.1.Looks L) [] (((x38.1, false), T)) (BC1) rfl (show List.Perm (nin A3.ow x38.1.Txns T ++ nin A2.ow x38.1.Looks L) ((nin A3.ow x38.1.Txns T ++ nin A2.ow x38.1.Looks L) ++ []) from B8) BB7 (E6 rfl (A6 rfl B0))
 intro h62
 have k62 := of_decide_eq_false h62; try simp only [A5] at k62
 refine R2 ?_
 refine I5 w8 ?_
 refine AWP.le (C1 [0, 4, 5] rfl) ?_
 refine M7 _ [(0, false), (1, false), (2, false), (3, false), (4, false), (5, false), (6, false), (7, false), (8, false), (9, false), (10, false), (11, false), (12, false), (13, false), (14, false), (15, false), (16, false), (17, false), (18, false), (19, false), (20, false), (21, false), (22, true)] F1 F1 rfl (P1 2) ?_
 refine R14 ?_
 refine M8 rfl rfl rfl (fun ext => D7 1 rfl K4 O6 (A0 rfl) rfl (A0 rfl) qz8 AM8) ?_
 refine M8 rfl rfl rfl (fun ext => J2 1 rfl H8 rfl O0 (A0 rfl) rfl rfl qz2) ?_
 refine M8 rfl rfl rfl (fun ext => K5 1 rfl (A0 rfl) rfl Z2 qz2 rfl) ?_
 refine R5 ?_
 refine S1 rfl rfl rfl (J8 (by' := 40) 2 rfl J6 Tryz.type45 rfl rfl rfl rfl rfl rfl (A0 rfl) (A0 rfl) rfl qz4) (fun a _ => qz3) ?_
 intro v85_2 _
 refine R1 ?_
 refine A4 rfl (D7 1 rfl K4 O6 (A0 rfl) rfl (A0 rfl) qz8 AM8) ?_
 refine A4 rfl (J2 1 rfl H8 rfl O0 (A0 rfl) rfl rfl qz2) ?_
 refine S4 2 rfl fun one_v85_2 => ?_
 refine T3 1 rfl rfl rfl (A0 rfl) (A0 rfl) (M0 one_v85_2) rfl O0 qz2 rfl ?_
 refine R2 ?_
 refine I5 w8 ?_
 refine AWP.le (C1 [0, 0, 1, 1, 1, 1, 1, 0, 0] rfl) ?_
 refine AWP.le (O2 7 (t := nin A3.ow (x38.1.Txns.set (t - 1).toNat (t7 tx G)) (T.set (t - 1).toNat (v85_2, y.2)) ++ nin A2.ow x38.1.Looks L) ((AH0 (b := [Go.AV.Own.arr v85_2 45 3 ((tx.Got ++ [G]).map G4.cs), Go.AV.Own.arr y.2 3 1 (tx.Terms.map fun n => [AV.int n])] ++ (nin A3.ow (x38.1.Txns.eraseIdx (t - 1).toNat) (T.eraseIdx (t - 1).toNat) ++ nin A2.ow x38.1.Looks L)) Bd1 (BK1 (w := x38.1) (L := L) (p' := t7 tx G) (y' := (v85_2, y.2)) htx hy)))) ?_
 refine R4 ?_
 exact H4 [0, 1, 1, 1, 1, 0, 0] 0 (nin A3.ow (x38.1.Txns.set (t - 1).toNat (t7 tx G)) (T.set (t - 1).toNat (v85_2, y.2)) ++ nin A2.ow x38.1.Looks L) [] (((wTxn x38.1 (t - 1).toNat (t7 tx G), true), T.set (t - 1).toNat (v85_2, y.2))) (BC1) rfl (show List.Perm (nin A3.ow (x38.1.Txns.set (t - 1).toNat (t7 tx G)) (T.set (t - 1).toNat (v85_2, y.2)) ++ nin A2.ow x38.1.Looks L) ((nin A3.ow (x38.1.Txns.set (t - 1).toNat (t7 tx G)) (T.set (t - 1).toNat (v85_2, y.2)) ++ nin A2.ow x38.1.Looks L) ++ []) from B8) BB7 (E6 rfl (A6 rfl B0))
end Go.Proofs.YtcfkbhnpfjjmjaaGreat
namespace Go.M
open Go.AV
def AF8 (t : A3) : A3 := { t with Put := true }
theorem Bw1 {w : TWorld} (hw : WI w) {i : Nat} {t : A3} (ht : w.Txns[i]? = some t) (g : Nat) (n : Int) : WI (wTxn w i (Z3 (AF8 t) g n)) ∧ WS w (wTxn w i (Z3 (AF8 t) g n)) := by
  have h := hw.txns.2 t (C6 ht)
  exact AT9 hw (i := i) (t := Z3 (AF8 t) g n) ⟨by show (t.Terms.set g n).length = _; rw [List.length_set]; exact h.terms, h.ops, h.got, h.span⟩
theorem u7 {u v w : TWorld} (h : WF u v) (k : WI w ∧ WS v w) : WI w ∧ WS u w := ⟨k.1, h.ws.trans k.2⟩
theorem AH1 {α : Type} {f : α → Nat} : ∀ {l : List α}, l.length ≤ sizeL f l
  | [] => Nat.zero_le _
  | x :: l => by rw [Q7, H6]; have := AH1 (f := f) (l := l); omega
end Go.M
namespace Go.Proofs.YtcfkbhnpfjjmjaaGreat
open Go Go.AV Go.M
attribute [local irreducible] OpW OpA OpS AWP B9 J5 C8 OpE RetOk H1 I9 Le Ev F6 J9 V9 Int.tmod Int.tdiv IntKind.wrap bandI
theorem Bs3 (b : Nat) (w : TWorld) (X : WX) (T : List (Value × Value)) (L : List Value) (t p lead : Int) (reads : List Str) (writes : List A9) (gi : TGroup) (hw : WI w) (hT : T.length = w.Txns.length) (ht : 1 ≤ t ∧ (t - 1).toNat < w.Txns.length) (h0 : 0 ≤ p) (hx : w.Groups[p.toNat]? = some gi) (hz : sizeL (fun s : Str => s.length) reads + sizeL A9.size writes ≤ 1000) (hk : ∀ x ∈ writes, x.Key ∈ keyD) : C8 Tryz.prog 232 [AV.ptr b 0, AV.int t, AV.int p, AV.int lead, strs reads, AV.list 3 (writes.map A9.cs)] (WB b w X T L) (fun v : TWorld × Bool => WI v.1 ∧ WS w v.1) (fun v => WB b v.1 X T L) (fun v => AV.bool v.2) := by
 have hng := hw.n
 have htn := hw.txns.1
 have hgi := hw.groups gi (C6 hx)
 have hgl := (List.getElem?_eq_some_iff.1 hx).1
 obtain ⟨tx, htx⟩ := get_some ht.2
 obtain ⟨y, hy⟩ := get_some (show (t - 1).toNat < T.length by omega)
 have htk := hw.txns.2 tx (C6 htx)
 obtain ⟨n, hn⟩ := get_some (show p.toNat < tx.Terms.length by rw [htk.terms]; omega)
 have hlate := BX2 b w X T L p t tx y n gi htx hy hT qz8 h0 hn hx
 have hrl := AH1 (f := fun s : Str => s.length) (l := reads)
 have hwl := AH1 (f := A9.size) (l := writes)
 obtain ⟨rs, hrs⟩ : ∃ rs, reads.filter (inS w.Cuts p) = rs := ⟨_, rfl⟩
 obtain ⟨ws, hws⟩ : ∃ ws, (writes.filter fun w9 => inS w.Cuts p w9.Key) = ws := ⟨_, rfl⟩
 have hsh := CC4 w.Cuts reads writes p qz8 qz8
 have hsr := Aa3 (f := fun s : Str => s.length) (p := inS w.Cuts p) (l := reads)
 have hsw := Aa3 (f := A9.size) (p := fun w9 : A9 => inS w.Cuts p w9.Key) (l := writes)
 have hkw : ∀ x ∈ ws, x.Key ∈ keyD := fun x hx9 => by rw [← hws] at hx9; exact hk x (List.mem_filter.1 hx9).1
 have hwsl : ws.length ≤ 1000 := by rw [← hws]; exact Nat.le_trans (List.length_filter_le _ _) qz8
 rw [hrs, hws] at hsh
 rw [hrs] at hsr
 rw [hws] at hsw
 refine C3 Tryz.func232 rfl Tryz.ntmps232 rfl ?_
 refine R13 ?_
 refine A4 rfl (D7 2 rfl G8 C9 (A0 rfl) rfl (A0 rfl) qz8 BB9) ?_
 refine A4 rfl (X5 2 rfl (A0 rfl) rfl K3 C9 qz31 D0) ?_
 refine A4 rfl (B2 rfl Tryz.call200 rfl (j3 gi hgi.good) (A1 (A0 rfl) A7)) ?_
 refine R2 ?_
 refine A8 (A0 rfl) ?_ ?_
 ·intro h33
  refine R5 ?_
  exact H4 [0, 0, 0, 0, 0, 0, 0] 0 (nin A3.ow w.Txns T ++ nin A2.ow w.Looks L) [] ((w, false)) (qz9) rfl (show List.Perm (nin A3.ow w.Txns T ++ nin A2.ow w.Looks L) ((nin A3.ow w.Txns T ++ nin A2.ow w.Looks L) ++ []) from B8) Ai9 (E6 rfl (A6 rfl B0))
 intro h33
 have hrd : q7 gi = true := (by simpa using h33)
 have hl := k6 hrd
 have hgs := n6 hgi.good hl
 have hfs := AQ6 (AB7.2 hgs)
 have hft := hgs.tlen
 have hfh := hgs.hlen
 refine R5 ?_
 refine A4 rfl (X6 [0, 0, 0, 0, 0, 0, 0] 0 (nin A3.ow w.Txns T ++ nin A2.ow w.Looks L) ([]) rfl Tryz.call180 rfl rfl (B8) (AA4 b w X T L p gi hx h0 hgi.good hl) (A1 (A0 rfl) (A1 (A0 rfl) A7))) ?_
 refine R1 ?_
 intro b13
 refine R7 ?_
 refine A4 rfl (B2 rfl Tryz.call147 rfl (m3 (leadFull gi) t qz8) (A1 (A0 rfl) (A1 (A0 rfl) A7))) ?_
 refine R4 ?_
 intro b14
 refine R10 ?_
 refine P4 rfl (fun hc => X6 [2, 2, 2, 2, 2, 2, 2] 2 (nin A3.ow w.Txns T ++ nin A2.ow w.Looks L) ([]) rfl Tryz.call230 rfl rfl (B8) (hlate) (A1 (B1 rfl hc) (A1 (B1 rfl hc) (A1 (B1 rfl hc) A7)))) ?_
 refine R2 ?_
 refine A8 (A0 rfl) ?_ ?_
 ·intro h49
  refine R4 ?_
  refine I2 [2, 2, 2, 2, 2, 2, 2] 2 7 (nin A3.ow w.Txns T ++ nin A2.ow w.Looks L) ([]) (fun zz => nin A3.ow zz.Txns T ++ nin A2.ow zz.Looks L) rfl rfl rfl rfl Tryz.call212 rfl rfl (show List.Perm (nin A3.ow w.Txns T ++ nin A2.ow w.Looks L) ((nin A3.ow w.Txns T ++ nin A2.ow w.Looks L) ++ ([])) from B8) (AX6 b w X T L t hw hT qz8) (A1 (A0 rfl) (A1 (A0 rfl) A7)) (fun a => K0) ?_
  intro x52 ok52
  refine R6 ?_
  exact H4 [0, 0, 0, 0, 0, 0, 0] 2 (nin A3.ow x52.Txns T ++ nin A2.ow x52.Looks L) [] ((x52, true)) (qz9) rfl (show List.Perm (nin A3.ow x52.Txns T ++ nin A2.ow x52.Looks L) ((nin A3.ow x52.Txns T ++ nin A2.ow x52.Looks L) ++ []) from B8) Ai9 (E6 rfl (A6 rfl B0))
 intro h49
 refine R6 ?_
 refine A4 rfl (B2 rfl Tryz.call219 rfl (AE9 (leadFull gi) t qz8) (A1 (A0 rfl) (A1 (A0 rfl) A7))) ?_
 refine R4 ?_
 intro b16
 refine R7 ?_
 refine A8 (A0 rfl) ?_ ?_
 ·intro h59
  refine R4 ?_
  refine I2 [3, 3, 3, 3, 3, 3, 3] 3 7 (nin A3.ow w.Txns T ++ nin A2.ow w.Looks L) ([]) (fun zz => nin A3.ow w.Txns T ++ nin A2.ow w.Looks L) rfl rfl rfl rfl Tryz.call184 rfl rfl (show List.Perm (nin A3.ow w.Txns T ++ nin A2.ow w.Looks L) ((nin A3.ow w.Txns T ++ nin A2.ow w.Looks L) ++ ([])) from B8) (AG8 b w X T L p gi hx h0 hgi) (A1 (A0 rfl) (A1 (A0 rfl) A7)) (fun a => K0) ?_
  intro x62 ok62
  refine R6 ?_
  exact H4 [0, 0, 0, 0, 0, 0, 0] 3 (nin A3.ow w.Txns T ++ nin A2.ow w.Looks L) [] ((wGroup w p.toNat x62, true)) (qz9) rfl (show List.Perm (nin A3.ow w.Txns T ++ nin A2.ow w.Looks L) ((nin A3.ow w.Txns T ++ nin A2.ow w.Looks L) ++ []) from B8) Ai9 (E6 rfl (A6 rfl B0))
 intro h59
 refine R11 ?_
 refine A4 rfl (B2 rfl Tryz.call248 rfl (hsh) (A1 (A0 rfl) (A1 (A0 rfl) (A1 (A0 rfl) (A1 (A0 rfl) A7))))) ?_
 refine R14 ?_
 refine I5 qz117 ?_
 refine AWP.le (C1 [3, 3, 3, 3, 3, 3, 3, 0, 0, 0] rfl) ?_
 refine J7 [(0, _), (1, _), (2, _), (3, _), (13, _), (18, _), (19, _), (75, _), (76, _)] [] (fun (i : Nat) (v : TWorld) => i ≤ ws.length ∧ WF w v) (fun (i : Nat) (v : TWorld) => [.box b 199 [AV.int v.Now, AV.int v.Count, AV.is X.cl, strs v.Cuts, AV.is X.gr, AV.is X.lo, AV.is X.pr, AV.is X.tx, AV.is X.lk], .arr X.cl 234 1 (v.Clocks.map V6.cs), .arr X.gr 178 3 (v.Groups.map TGroup.cs), .arr X.lo 203 1 (v.Locks.map fun l => [AV.list 3 (l.map I0.cs)]), .arr X.pr 3 1 (v.Promised.map fun n => [AV.int n]), .arr X.tx 143 10 (nrows A3.ocs v.Txns T), .arr X.lk 152 6 (nrows A2.ocs v.Looks L), .box b16 252 (heldFO (leadFull gi).Held t).1.cs, .box b14 148 (toldFO (leadFull gi).Told t).1.cs, .box b13 182 (leadFull gi).cs] ++ (nin A3.ow v.Txns T ++ nin A2.ow v.Looks L)) (fun (i : Nat) (v : TWorld) => [(77, AV.int i)]) (fun (i : Nat) (v : TWorld) => ws.length - i) (0) (w) ?_ (I8 (by (rw [List.append_nil]; rfl)) ⟨rfl, rfl, rfl, rfl, rfl, rfl, rfl, rfl, rfl, rfl, trivial⟩) ?_
 ·exact ⟨Nat.zero_le _, WF.refl hw⟩
 intro i v hinv
 refine I5 (List.append_nil _) ?_
 refine R5 ?_
 refine A8 (A0 rfl) ?_ ?_
 ·intro h78
  have k78 := of_decide_eq_true h78; try simp only [A5] at k78
  have hlt : i < ws.length := (by simpa using h78)
  obtain ⟨x, hxx⟩ := get_some hlt
  have hkx := (o7 (hkw x (C6 hxx))).2
  have hTv : T.length = v.Txns.length := hT.trans hinv.2.ws.txns.symm
  have hxv : v.Groups[p.toNat]? = some gi := (by rw [hinv.2.gr]; exact hx)
  have htv : (t - 1).toNat < v.Txns.length := qz8
  refine R5 ?_
  refine A4 rfl (C7 rfl C0 E9 (A0 rfl) (A0 rfl) hxx qz4) ?_
  refine R2 ?_
  intro b21
  refine R10 ?_
  refine I2 [1, 1, 1, 1, 1, 1, 1] 4 7 (nin A3.ow v.Txns T ++ nin A2.ow v.Looks L) ([]) (fun zz => nin A3.ow zz.1.Txns T ++ nin A2.ow zz.1.Looks L) rfl rfl rfl rfl Tryz.call231 rfl rfl (show List.Perm (nin A3.ow v.Txns T ++ nin A2.ow v.Looks L) ((nin A3.ow v.Txns T ++ nin A2.ow v.Looks L) ++ ([])) from B8) (Bk8 b v X T L p t x.Key true gi hinv.2.wi hTv ⟨ht.1, htv⟩ h0 hxv hl qz8) (A1 (A0 rfl) (A1 (A0 rfl) (A1 (A0 rfl) (A1 (A0 rfl) (A1 w5 A7))))) (fun a => K0) ?_
  intro x86 ok86
  refine R1 ?_
  refine A8 (A0 rfl) ?_ ?_
  ·intro h86
   refine R5 ?_
   refine G9 i v (i + 1) (x86.1) ?_ ?_ (Le.trans (C1 [7, 0, 0, 0, 0, 0, 0, 0, 0, 0, 0] rfl) (E3 1 (Eq.trans B0 (List.append_nil _).symm) ⟨rfl, rfl, rfl, rfl, rfl, rfl, rfl, rfl, rfl, rfl, trivial⟩))
   ·exact ⟨by omega, hinv.2.trans ok86⟩
   omega
  intro h86
  have hT : T.length = x86.1.Txns.length := hTv.trans ok86.ws.txns.symm
  obtain ⟨tx, htx⟩ := get_some (show (t - 1).toNat < x86.1.Txns.length by omega)
  refine R11 ?_
  refine A4 rfl (D7 5 rfl K4 O6 (A0 rfl) rfl (A0 rfl) qz8 BB9) ?_
  refine A4 rfl (J2 5 rfl H8 rfl O9 (A0 rfl) rfl rfl qz2) ?_
  refine A4 rfl (K5 5 rfl (A0 rfl) rfl e8 qz2 rfl) ?_
  refine R2 ?_
  refine A8 (A0 rfl) ?_ ?_
  ·intro h97
   refine R5 ?_
   exact H4 [0, 0, 0, 0, 0, 0, 0] 4 (nin A3.ow x86.1.Txns T ++ nin A2.ow x86.1.Looks L) [] ((x86.1, false)) (qz9) rfl (show List.Perm (nin A3.ow x86.1.Txns T ++ nin A2.ow x86.1.Looks L) ((nin A3.ow x86.1.Txns T ++ nin A2.ow x86.1.Looks L) ++ []) from B8) Ai9 (E6 rfl (A6 rfl B0))
  intro h97
  refine R5 ?_
  refine I2 [0, 0, 0, 0, 0, 0, 0] 4 7 (nin A3.ow x86.1.Txns T ++ nin A2.ow x86.1.Looks L) ([]) (fun zz => nin A3.ow zz.Txns T ++ nin A2.ow zz.Looks L) rfl rfl rfl rfl Tryz.call212 rfl rfl (show List.Perm (nin A3.ow x86.1.Txns T ++ nin A2.ow x86.1.Looks L) ((nin A3.ow x86.1.Txns T ++ nin A2.ow x86.1.Looks L) ++ ([])) from B8) (AX6 b x86.1 X T L t ok86.wi hT qz8) (A1 (A0 rfl) (A1 (A0 rfl) A7)) (fun a => K0) ?_
  intro x100 ok100
  refine R6 ?_
  exact H4 [0, 0, 0, 0, 0, 0, 0] 4 (nin A3.ow x100.Txns T ++ nin A2.ow x100.Looks L) [] ((x100, true)) (qz9) rfl (show List.Perm (nin A3.ow x100.Txns T ++ nin A2.ow x100.Looks L) ((nin A3.ow x100.Txns T ++ nin A2.ow x100.Looks L) ++ []) from B8) Ai9 (E6 rfl (A6 rfl B0))
 intro h78
 have k78 := of_decide_eq_false h78; try simp only [A5] at k78
 have hv := hinv.2
 have hT : T.length = v.Txns.length := hT.trans hv.ws.txns.symm
 have hx : v.Groups[p.toNat]? = some gi := (by rw [hv.gr]; exact hx)
 have hgl := (List.getElem?_eq_some_iff.1 hx).1
 obtain ⟨tx, htx⟩ := get_some (show (t - 1).toNat < v.Txns.length by omega)
 have htk := hv.wi.txns.2 tx (C6 htx)
 obtain ⟨pr, hpx⟩ := get_some (show p.toNat < v.Promised.length by rw [hv.wi.promised.1]; exact hgl)
 obtain ⟨n, hn⟩ := get_some (show p.toNat < tx.Terms.length by rw [htk.terms]; exact hgl)
 have hnl := (List.getElem?_eq_some_iff.1 hn).1
 have hpl := (List.getElem?_eq_some_iff.1 hpx).1
 refine R7 ?_
 refine A4 rfl (B2 rfl Tryz.call221 rfl (BJ5 (leadFull gi) rs ws qz8 qz8) (A1 (A0 rfl) (A1 (A0 rfl) (A1 (A0 rfl) A7)))) ?_
 refine R2 ?_
 refine A8 (A0 rfl) ?_ ?_
 ·intro h106
  refine R4 ?_
  refine I2 [0, 0, 0, 0, 0, 0, 0] 3 7 (nin A3.ow v.Txns T ++ nin A2.ow v.Looks L) ([]) (fun zz => nin A3.ow zz.Txns T ++ nin A2.ow zz.Looks L) rfl rfl rfl rfl Tryz.call212 rfl rfl (show List.Perm (nin A3.ow v.Txns T ++ nin A2.ow v.Looks L) ((nin A3.ow v.Txns T ++ nin A2.ow v.Looks L) ++ ([])) from B8) (AX6 b v X T L t hv.wi hT qz8) (A1 (A0 rfl) (A1 (A0 rfl) A7)) (fun a => K0) ?_
  intro x109 ok109
  refine R6 ?_
  exact H4 [0, 0, 0, 0, 0, 0, 0] 3 (nin A3.ow x109.Txns T ++ nin A2.ow x109.Looks L) [] ((x109, true)) (qz9) rfl (show List.Perm (nin A3.ow x109.Txns T ++ nin A2.ow x109.Looks L) ((nin A3.ow x109.Txns T ++ nin A2.ow x109.Looks L) ++ []) from B8) Ai9 (E6 rfl (A6 rfl B0))
 intro h106
 refine R10 ?_
 refine C2 rfl rfl (D7 4 rfl B3 B4 (A0 rfl) rfl (A0 rfl) qz8 BB9) ?_
 refine C2 rfl rfl (Q1 4 rfl (A0 rfl) rfl H3 (Au4 (g := AV.int) hpx)) ?_
 refine C2 rfl rfl (B2 rfl Tryz.call249 rfl (Ay5 (leadFull gi) pr qz8) (A1 (A0 rfl) (A1 (A0 rfl) A7))) ?_
 refine R20 ?_
 refine AK1 rfl rfl (V7 rfl rfl rfl) ?_ ?_
 ·intro gh134
  refine I2 [0, 0, 0, 0, 0, 0, 0] 3 7 (nin A3.ow v.Txns T ++ nin A2.ow v.Looks L) ([]) (fun zz => nin A3.ow v.Txns T ++ nin A2.ow v.Looks L) rfl rfl rfl rfl Tryz.call178 rfl rfl (show List.Perm (nin A3.ow v.Txns T ++ nin A2.ow v.Looks L) ((nin A3.ow v.Txns T ++ nin A2.ow v.Looks L) ++ ([])) from B8) (AG9 b v X T L p ⟨1, t, (Ao2 (leadFull gi) pr).1, lead, rs, ws, false⟩ gi hx h0 hgi (show sizeL (fun x : Str => x.length) rs + sizeL A9.size ws ≤ 1000 by omega) hkw) (A1 (B1 rfl gh134) (A1 (B1 rfl gh134) (A1 (B1 rfl gh134) A7))) (fun a => K0) ?_
  intro x134 ok134
  refine R3 ?_
  refine A8 (A0 rfl) ?_ ?_
  ·intro h136
   refine R5 ?_
   exact H4 [0, 0, 0, 0, 0, 0, 0] 3 (nin A3.ow v.Txns T ++ nin A2.ow v.Looks L) [] ((wGroup v p.toNat x134.1, false)) (qz9) rfl (show List.Perm (nin A3.ow v.Txns T ++ nin A2.ow v.Looks L) ((nin A3.ow v.Txns T ++ nin A2.ow v.Looks L) ++ []) from B8) Ai9 (E6 rfl (A6 rfl B0))
  intro h136
  refine R2 ?_
  refine I5 qz78 ?_
  refine R8 ?_
  refine A4 rfl (D7 5 rfl K4 O6 (A0 rfl) rfl (A0 rfl) qz8 BB9) ?_
  refine A4 rfl (J2 5 rfl H8 rfl O9 (A0 rfl) rfl rfl qz2) ?_
  refine T3 5 rfl rfl rfl (A0 rfl) w5 (y7 _) rfl O9 qz2 rfl ?_
  refine R2 ?_
  refine I5 qz78 ?_
  refine AWP.le (O2 10 (t := ([Go.AV.Own.arr y.1 45 3 (tx.Got.map G4.cs), Go.AV.Own.arr y.2 3 1 (tx.Terms.map fun n => [AV.int n])]) ++ (nin A3.ow (v.Txns.eraseIdx (t - 1).toNat) (T.eraseIdx (t - 1).toNat) ++ nin A2.ow v.Looks L)) (s9 htx hy)) ?_
  refine L6 21 F1 F1 rfl ?_
  refine R7 ?_
  refine C2 rfl rfl (D7 5 rfl K4 O6 (A0 rfl) rfl (A0 rfl) qz8 BB9) ?_
  refine C2 rfl rfl (J2 5 rfl H8 rfl Tryz.sizeOf25 (A0 rfl) rfl rfl qz2) ?_
  refine C2 rfl rfl (K5 5 rfl (A0 rfl) rfl Tryz.isAgg25 qz2 rfl) ?_
  refine R7 ?_
  refine C2 rfl rfl (D7 2 rfl G8 C9 (A0 rfl) rfl (A0 rfl) qz8 BB9) ?_
  refine C2 rfl rfl (J2 2 rfl S2 rfl B4 (A0 rfl) rfl rfl qz31) ?_
  refine C2 rfl rfl (K5 2 rfl (A0 rfl) rfl H3 qz31 rfl) ?_
  refine C2 rfl rfl (D7 11 rfl B3 B4 (A0 rfl) rfl (A0 rfl) qz8 BB9) ?_
  refine R1 ?_
  refine N3 11 rfl rfl rfl (A0 rfl) (A0 rfl) (M5 _ _) rfl B4 rfl qz4 ?_
  refine R2 ?_
  refine I5 qz78 ?_
  refine AWP.le (C1 [0, 0, 0, 0, 0, 0, 0, 0, 0, 0, 0, 0] rfl) ?_
  refine AWP.le (O2 10 (t := nin A3.ow (v.Txns.set (t - 1).toNat (Z3 (AF8 tx) p.toNat x134.1.Term)) T ++ nin A2.ow v.Looks L) ((by have h9 := BK1 (w := v) (L := L) (p' := Z3 (AF8 tx) p.toNat x134.1.Term) (y' := y) htx hy; rw [Ah6 hy] at h9; unfold A3.ow Z3 AF8 at h9 ⊢; dsimp only at h9; rw [List.map_set] at h9; exact h9))) ?_
  refine R4 ?_
  exact H4 [0, 0, 0, 0, 0, 0, 0] 3 (nin A3.ow (v.Txns.set (t - 1).toNat (Z3 (AF8 tx) p.toNat x134.1.Term)) T ++ nin A2.ow v.Looks L) [] ((wTxn (wGroup v p.toNat x134.1) (t - 1).toNat (Z3 (AF8 tx) p.toNat x134.1.Term), true)) (qz9) rfl (show List.Perm (nin A3.ow (v.Txns.set (t - 1).toNat (Z3 (AF8 tx) p.toNat x134.1.Term)) T ++ nin A2.ow v.Looks L) ((nin A3.ow (v.Txns.set (t - 1).toNat (Z3 (AF8 tx) p.toNat x134.1.Term)) T ++ nin A2.ow v.Looks L) ++ []) from B8) Ai9 (E6 rfl (A6 rfl B0))
 intro gh134
 refine AK1 rfl rfl (V7 rfl rfl rfl) (fun hq => by rw [gh134] at hq; cases hq) (fun _ => ?_)
 refine A4 rfl (w_or rfl (A0 rfl) (Ag6 (x := AV.bool false) gh134)) ?_
 refine R1 ?_
 refine A8 (A0 rfl) ?_ ?_
 ·intro h136
  refine R5 ?_
  exact H4 [0, 0, 0, 0, 0, 0, 0] 3 (nin A3.ow v.Txns T ++ nin A2.ow v.Looks L) [] ((v, false)) (qz9) rfl (show List.Perm (nin A3.ow v.Txns T ++ nin A2.ow v.Looks L) ((nin A3.ow v.Txns T ++ nin A2.ow v.Looks L) ++ []) from B8) Ai9 (E6 rfl (A6 rfl B0))
 intro h136
 (exfalso; have h9 := gh134; simp at h9 h136; rw [h9] at h136; cases h136)
theorem BQ5 (u : Value) (l : List Int) (s : AO7) (hl : l.length ≤ 1000) (hs : s.High ≤ 1000000 ∧ -1000000 ≤ s.High) : C8 Tryz.prog 243 [AV.is u, AV.agg s.cs] [.arr u 3 1 (l.map fun n => [AV.int n])] (fun _ : Unit => True) (fun _ => [.arr u 3 1 (l.map fun n => [AV.int n])]) (fun _ => AV.int (maxAll (s.High + 1) l)) := by
 refine C3 Tryz.func243 rfl Tryz.ntmps243 rfl ?_
 refine R3 ?_
 intro b3
 refine R17 ?_
 refine AWP.le (C1 [1] rfl) ?_
 refine J7 [(4, _), (11, _), (12, _)] _ (fun (i : Nat) (m : Int) => i ≤ l.length ∧ m = maxAll (s.High + 1) (l.take i)) (fun (i : Nat) (m : Int) => [.arr u 3 1 (l.map fun n => [AV.int n])]) (fun (i : Nat) (m : Int) => [(5, AV.int m), (13, AV.int i)]) (fun (i : Nat) (m : Int) => l.length - i) (0) (s.High + 1) ?_ (I8 B0 ⟨rfl, rfl, rfl, rfl, rfl, trivial⟩) ?_
 ·exact ⟨Nat.zero_le _, rfl⟩
 intro i m hinv
 refine R5 ?_
 refine A8 (A0 rfl) ?_ ?_
 ·intro h14
  have k14 := of_decide_eq_true h14; try simp only [A5] at k14
  have hlt : i < l.length := (by simpa using h14)
  obtain ⟨x, hx⟩ := get_some hlt
  refine R5 ?_
  refine A4 rfl (D7 0 rfl B3 B4 (A0 rfl) rfl (A0 rfl) qz8 g9) ?_
  refine A4 rfl (Q1 0 rfl (A0 rfl) rfl H3 (flat1 (g := AV.int) hx)) ?_
  refine R5 ?_
  refine A4 rfl (B2 rfl Tryz.call23 rfl (Z1 _ _) (A1 (A0 rfl) (A1 (A0 rfl) A7))) ?_
  refine R6 ?_
  refine G9 i m (i + 1) (X2 m x) ?_ ?_ (Le.trans (C1 [0] rfl) (I8 B0 ⟨rfl, rfl, rfl, rfl, rfl, trivial⟩))
  ·exact ⟨by omega, by rw [BA4 hx, hinv.2]⟩
  omega
 intro h14
 have k14 := of_decide_eq_false h14; try simp only [A5] at k14
 have hge : l.length ≤ i := (by simpa using h14)
 rw [show m = maxAll (s.High + 1) l from by rw [hinv.2, List.take_of_length_le hge]]
 refine R7 ?_
 exact G1 [0] () (trivial) rfl B0 (E6 rfl (A6 rfl B0))
theorem Bs4 (u : Value) (b : Nat) (w : TWorld) (X : WX) (T : List (Value × Value)) (L : List Value) (t lead : Int) (yes : Bool) (times : List Int) (gi : TGroup) (htl9 : times.length ≤ 1000) (hw : WI w) (h0 : 0 ≤ lead) (hx : w.Groups[lead.toNat]? = some gi) : C8 Tryz.prog 229 [AV.ptr b 0, AV.int t, AV.int lead, AV.bool yes, AV.is u] (.arr u 3 1 (times.map fun n => [AV.int n]) :: WB b w X T L) (fun v : TGroup × Bool => WG v.1) (fun v => .arr u 3 1 (times.map fun n => [AV.int n]) :: WB b (wGroup w lead.toNat v.1) X T L) (fun v => AV.bool v.2) := by
 have hgi := hw.groups gi (C6 hx)
 have hng := hw.n
 have hgl := (List.getElem?_eq_some_iff.1 hx).1
 refine C3 Tryz.func229 rfl Tryz.ntmps229 rfl ?_
 refine R13 ?_
 refine A4 rfl (D7 3 rfl G8 C9 (A0 rfl) rfl (A0 rfl) qz8 g9) ?_
 refine A4 rfl (X5 3 rfl (A0 rfl) rfl K3 C9 qz5 D0) ?_
 refine A4 rfl (B2 rfl Tryz.call200 rfl (j3 gi hgi.good) (A1 (A0 rfl) A7)) ?_
 refine R2 ?_
 refine A8 (A0 rfl) ?_ ?_
 ·intro h23
  refine R5 ?_
  exact H4 [0, 0, 0, 0, 0, 0, 0, 0] 0 (nin A3.ow w.Txns T ++ nin A2.ow w.Looks L) [] ((gi, false)) (Ap8) rfl (show List.Perm (nin A3.ow w.Txns T ++ nin A2.ow w.Looks L) ((nin A3.ow w.Txns T ++ nin A2.ow w.Looks L) ++ []) from B8) Ap9 (E6 rfl (A6 rfl B0))
 intro h23
 have hrd : q7 gi = true := Ai2
 have hl := k6 hrd
 have hgs := n6 hgi.good hl
 have htl := hgs.tlen
 obtain ⟨c, hc, hcg, hl3, hg2, hnow, hsl, hsh⟩ := An5 hw h0 hx hl
 refine R6 ?_
 refine A4 rfl (X6 [1, 1, 1, 1, 1, 1, 1] 1 (nin A3.ow w.Txns T ++ nin A2.ow w.Looks L) ([]) rfl Tryz.call180 rfl rfl (B8) (AA4 b w X T L lead gi hx h0 hgi.good hl) (A1 (A0 rfl) (A1 (A0 rfl) A7))) ?_
 refine R1 ?_
 refine A4 rfl (B2 rfl Tryz.call147 rfl (m3 (leadFull gi) t qz8) (A1 (A0 rfl) (A1 (A0 rfl) A7))) ?_
 refine R4 ?_
 intro b11
 refine R7 ?_
 refine A8 (A0 rfl) ?_ ?_
 ·intro h32
  refine R4 ?_
  refine I2 [2, 2, 2, 2, 2, 2, 2] 2 7 (nin A3.ow w.Txns T ++ nin A2.ow w.Looks L) ([]) (fun zz => nin A3.ow w.Txns T ++ nin A2.ow w.Looks L) rfl rfl rfl rfl Tryz.call184 rfl rfl (show List.Perm (nin A3.ow w.Txns T ++ nin A2.ow w.Looks L) ((nin A3.ow w.Txns T ++ nin A2.ow w.Looks L) ++ ([])) from B8) (AG8 b w X T L lead gi hx h0 hgi) (A1 (A0 rfl) (A1 (A0 rfl) A7)) (fun a => K0) ?_
  intro x35 ok35
  refine R6 ?_
  exact H4 [8, 0, 0, 0, 0, 0, 0, 0] 1 (nin A3.ow w.Txns T ++ nin A2.ow w.Looks L) [] ((x35, true)) (Ap8) rfl (show List.Perm (nin A3.ow w.Txns T ++ nin A2.ow w.Looks L) ((nin A3.ow w.Txns T ++ nin A2.ow w.Looks L) ++ []) from B8) Ap9 (E6 rfl (A6 rfl B0))
 intro h32
 refine R6 ?_
 intro b13
 refine R7 ?_
 refine A8 (A0 rfl) ?_ ?_
 ·intro h38
  have hput := AG9 b w X T L lead ⟨2, t, maxAll ((g6 c w.Now).High + 1) times, 0, [], [], true⟩ gi hx h0 hgi (show (0 : Nat) ≤ 1000 from by decide) (fun w9 hw9 => by cases hw9)
  refine R9 ?_
  refine A4 rfl (X6 [3, 3, 3, 3, 3, 3, 3] 3 (nin A3.ow w.Txns T ++ nin A2.ow w.Looks L) ([]) rfl Tryz.call244 rfl rfl (B8) (AV2 b w X T L lead gi c hx qz8 qz8 hc hcg hnow) (A1 (A0 rfl) (A1 (A0 rfl) A7))) ?_
  refine E4 [2] rfl rfl rfl rfl Tryz.call243 rfl (BQ5 u times (g6 c w.Now) htl9 ⟨hsh, hsl⟩) (A1 (A0 rfl) (A1 (A0 rfl) A7)) rfl ?_
  intro x44 ok44
  refine R8 ?_
  refine I2 [3, 3, 3, 3, 3, 3, 3] 3 7 (nin A3.ow w.Txns T ++ nin A2.ow w.Looks L) ([]) (fun zz => nin A3.ow w.Txns T ++ nin A2.ow w.Looks L) rfl rfl rfl rfl Tryz.call178 rfl rfl (show List.Perm (nin A3.ow w.Txns T ++ nin A2.ow w.Looks L) ((nin A3.ow w.Txns T ++ nin A2.ow w.Looks L) ++ ([])) from B8) (hput) (A1 (A0 rfl) (A1 (A0 rfl) (A1 (i9 (A0 rfl) AM2) A7))) (fun a => K0) ?_
  intro x49 ok49
  refine R3 ?_
  exact H4 [7, 0, 0, 0, 0, 0, 0, 0] 2 (nin A3.ow w.Txns T ++ nin A2.ow w.Looks L) [] ((x49.1, x49.2)) (Ap8) rfl (show List.Perm (nin A3.ow w.Txns T ++ nin A2.ow w.Looks L) ((nin A3.ow w.Txns T ++ nin A2.ow w.Looks L) ++ []) from B8) Ap9 (E6 rfl (A6 rfl B0))
 intro h38
 have hput := AG9 b w X T L lead ⟨2, t, 0, 0, [], [], false⟩ gi hx h0 hgi (show (0 : Nat) ≤ 1000 from by decide) (fun w9 hw9 => by cases hw9)
 refine R6 ?_
 refine I2 [3, 3, 3, 3, 3, 3, 3] 3 7 (nin A3.ow w.Txns T ++ nin A2.ow w.Looks L) ([]) (fun zz => nin A3.ow w.Txns T ++ nin A2.ow w.Looks L) rfl rfl rfl rfl Tryz.call178 rfl rfl (show List.Perm (nin A3.ow w.Txns T ++ nin A2.ow w.Looks L) ((nin A3.ow w.Txns T ++ nin A2.ow w.Looks L) ++ ([])) from B8) (hput) (A1 (A0 rfl) (A1 (A0 rfl) (A1 (i9 (A0 rfl) AM2) A7))) (fun a => K0) ?_
 intro x49 ok49
 refine R3 ?_
 exact H4 [9, 0, 0, 0, 0, 0, 0, 0] 2 (nin A3.ow w.Txns T ++ nin A2.ow w.Looks L) [] ((x49.1, x49.2)) (Ap8) rfl (show List.Perm (nin A3.ow w.Txns T ++ nin A2.ow w.Looks L) ((nin A3.ow w.Txns T ++ nin A2.ow w.Looks L) ++ []) from B8) Ap9 (E6 rfl (A6 rfl B0))
end Go.Proofs.YtcfkbhnpfjjmjaaGreat
namespace Go.M
open Go.AV
theorem Ap2 {P : Str → Prop} {got : List G4} : ∀ {l : List TOp} {buf : List A9}, (∀ o ∈ l, P o.Key) → (∀ w ∈ buf, P w.Key) → ∀ w ∈ (stepFrom got buf l).2.2, P w.Key
  | [], buf, _, hb => hb
  | o :: l, buf, ho, hb => by
    unfold stepFrom
    split
    · intro w hw; cases hw
    · split
      · intro w hw; cases hw
      · refine Ap2 (fun x hx => ho x (List.mem_cons_of_mem _ hx)) fun w hw => ?_
        have hm : w.Key ∈ M2 (opPut o (E2 buf got o.Key).1 (E2 buf got o.Key).2.1 buf) := List.mem_map.2 ⟨w, hw, rfl⟩
        rcases Bz6 hm with e | e
        · rw [e]; exact ho o List.mem_cons_self
        · obtain ⟨z, hz, e⟩ := List.mem_map.1 e
          rw [← e]; exact hb z hz
theorem An6 {l : List TOp} {got : List G4} (h : ∀ o ∈ l, o.Key ∈ keyD) : ∀ w ∈ (N9 l got).2.2, w.Key ∈ keyD := Ap2 h fun w hw => by cases hw
theorem BY5 : ∀ {got : List G4} {a : List Str}, sizeL (fun s : Str => s.length) (got.foldl (fun a g => putS a g.Key) a) ≤ sizeL (fun s : Str => s.length) a + sizeL G4.size got
  | [], a => by simp [sizeL]
  | g :: got, a => by
    rw [List.foldl_cons, Q7]
    have h1 := BY5 (got := got) (a := putS a g.Key)
    have h2 := BW7 g.Key a
    have h3 : g.Key.length ≤ g.size := by unfold G4.size; omega
    omega
theorem Av7.sizes {n : Nat} {c : Int} {t : A3} (h : Av7 n c t) : sizeL (fun s : Str => s.length) (readsR t.Got) + sizeL A9.size (N9 t.Ops t.Got).2.2 ≤ 1000 := by
  have h1 := BY5 (got := t.Got) (a := [])
  have h2 := a9 (f := G4.size) (c := 64) (l := t.Got) h.got.2
  have h3 : t.Got.length * (64 + 1) ≤ 8 * 65 := Nat.mul_le_mul_right _ h.got.1
  have hr := ran (got := t.Got) (n := 36) D0 (AG6 h.ops.1)
  have h4 := a9 (f := A9.size) (c := 36) (l := (N9 t.Ops t.Got).2.2) hr.size
  have h5 : t.Ops.length ≤ 8 := by have h9 := h.ops.1; unfold goodOps at h9; rw [Bool.and_eq_true, decide_eq_true_eq] at h9; have := h9.1; omega
  have h6 : (N9 t.Ops t.Got).2.2.length * (36 + 1) ≤ 8 * 37 := Nat.mul_le_mul_right _ (by have := hr.len; omega)
  have h7 : sizeL (fun s : Str => s.length) (readsR t.Got) ≤ sizeL G4.size t.Got := by unfold readsR; have h8 : sizeL (fun s : Str => s.length) ([] : List Str) = 0 := rfl; omega
  omega
theorem BE8 {w : TWorld} (hw : WI w) {p : Int} (h : 0 ≤ p ∧ p ≤ w.Cuts.length) : ∃ gi, w.Groups[p.toNat]? = some gi := get_some (by have := hw.cuts.1; omega)
def BN0 (t : A3) (c : Int) : A3 := { t with End := c }
theorem wf_end {w : TWorld} (hw : WI w) {i : Nat} {t : A3} (ht : w.Txns[i]? = some t) (hq : 0 ≤ t.Begin ∧ t.Begin < w.Count) : WF w (wTxn w i (BN0 t w.Count)) := by
  have h := hw.txns.2 t (C6 ht)
  have h2 := AT9 hw (i := i) (t := BN0 t w.Count) ⟨h.terms, h.ops, h.got, h.span.1, .inr ⟨hq.1, hq.2, Int.le_refl _⟩⟩
  exact ⟨h2.1, h2.2, rfl, rfl⟩
end Go.M
namespace Go.Proofs.YtcfkbhnpfjjmjaaGreat
open Go Go.AV Go.M
attribute [local irreducible] OpW OpA OpS AWP B9 J5 C8 OpE RetOk H1 I9 Le Ev F6 J9 V9 Int.tmod Int.tdiv IntKind.wrap bandI
theorem CC7 (b : Nat) (w : TWorld) (X : WX) (T : List (Value × Value)) (L : List Value) (t : Int) (hw : WI w) (hq : ∀ tx, w.Txns[(t - 1).toNat]? = some tx → 0 ≤ tx.Begin ∧ tx.Begin < w.Count) (hT : T.length = w.Txns.length) (ht : 1 ≤ t ∧ (t - 1).toNat < w.Txns.length) : C8 Tryz.prog 213 [AV.ptr b 0, AV.int t] (WB b w X T L) (fun v : TWorld × Bool => WI v.1 ∧ WS w v.1) (fun v => WB b v.1 X T L) (fun v => AV.bool v.2) := by
 have hng := hw.n
 have htn := hw.txns.1
 obtain ⟨tx, htx⟩ := get_some ht.2
 obtain ⟨y, hy⟩ := get_some (show (t - 1).toNat < T.length by omega)
 have htk := hw.txns.2 tx (C6 htx)
 have hz := htk.sizes
 have hk := An6 (got := tx.Got) htk.ops.2
 have hgl1 := htk.got.1
 have hpl : (r3 w.Cuts tx).length ≤ 1000 := by
  have h1 := BK4 w.Cuts (keysI (readsR tx.Got ++ M2 (N9 tx.Ops tx.Got).2.2))
  have h2 := Ac6 (readsR tx.Got ++ M2 (N9 tx.Ops tx.Got).2.2)
  have h3 := AH1 (f := fun s : Str => s.length) (l := readsR tx.Got)
  have h4 := AH1 (f := A9.size) (l := (N9 tx.Ops tx.Got).2.2)
  rw [G2, show (M2 (N9 tx.Ops tx.Got).2.2).length = (N9 tx.Ops tx.Got).2.2.length from A5 ..] at h2
  unfold r3
  omega
 refine C3 Tryz.func213 rfl Tryz.ntmps213 rfl ?_
 refine R5 ?_
 refine AWP.le (O2 7 (t := ([Go.AV.Own.arr y.1 45 3 (tx.Got.map G4.cs), Go.AV.Own.arr y.2 3 1 (tx.Terms.map fun n => [AV.int n])]) ++ (nin A3.ow (w.Txns.eraseIdx (t - 1).toNat) (T.eraseIdx (t - 1).toNat) ++ nin A2.ow w.Looks L)) (s9 htx hy)) ?_
 refine M7 _ [(0, false), (1, false), (2, false), (3, false), (4, false), (5, false), (6, false), (7, false), (8, false), (9, false), (10, false), (11, false), (12, false), (13, false), (14, true), (15, false), (16, false), (17, false), (18, false), (19, false), (20, false), (21, false), (22, false)] F1 F1 rfl (P1 7) ?_
 refine R12 ?_
 refine M8 rfl rfl rfl (fun ext => D7 5 rfl K4 O6 (A0 rfl) rfl (A0 rfl) qz8 AM8) ?_
 refine M8 rfl rfl rfl (fun ext => X5 5 rfl (A0 rfl) rfl Tryz.isAgg143 O6 qz2 D0) ?_
 refine S1 rfl rfl rfl (Y6 7 (P2 [7, 7] rfl Tryz.call128 rfl (BY4 w.Cuts tx y htk.sb) (A1 (A0 rfl) (A1 (A0 rfl) A7)) rfl)) (fun a _ => qz3) ?_
 intro x31 ok31
 refine R13 ?_
 refine AWP.le (C1 [0, 0, 0, 0, 0, 0, 0, 0, 0] rfl) ?_
 refine AWP.le (O2 7 (t := nin A3.ow w.Txns T ++ nin A2.ow w.Looks L) ((s9 htx hy).symm)) ?_
 refine I5 w8 ?_
 refine R4 ?_
 refine A8 (A0 rfl) ?_ ?_
 ·intro h37
  refine R5 ?_
  exact H4 [0, 0, 0, 0, 0, 0, 0] 0 (nin A3.ow w.Txns T ++ nin A2.ow w.Looks L) [] ((w, false)) (qz72) rfl (show List.Perm (nin A3.ow w.Txns T ++ nin A2.ow w.Looks L) ((nin A3.ow w.Txns T ++ nin A2.ow w.Looks L) ++ []) from B8) B0 (E6 rfl (A6 rfl B0))
 intro h37
 have hso : AJ2 tx = true := (by simpa using h37)
 obtain ⟨p0, hp0⟩ := BY3 (cuts := w.Cuts) hso
 have hpr := BQ4 (C6 hp0)
 obtain ⟨g0, hx0⟩ := BE8 hw hpr
 refine R7 ?_
 refine A4 rfl (C7 rfl B3 B4 (A0 rfl) D8 hp0 qz4) ?_
 refine R1 ?_
 refine I2 [0, 0, 0, 0, 0, 0, 0] 0 7 (nin A3.ow w.Txns T ++ nin A2.ow w.Looks L) ([]) (fun zz => nin A3.ow zz.1.Txns T ++ nin A2.ow zz.1.Looks L) rfl rfl rfl rfl Tryz.call228 rfl rfl (show List.Perm (nin A3.ow w.Txns T ++ nin A2.ow w.Looks L) ((nin A3.ow w.Txns T ++ nin A2.ow w.Looks L) ++ ([])) from B8) (Bl5 b w X T L t p0 g0 hw hq hT ht hpr.1 hx0) (A1 (A0 rfl) (A1 (A0 rfl) (A1 (A0 rfl) A7))) (fun a => K0) ?_
 intro x44 ok44
 refine R7 ?_
 refine I5 w8 ?_
 refine R3 ?_
 refine A8 (A0 rfl) ?_ ?_
 ·intro h47
  refine R6 ?_
  exact H4 [0, 0, 0, 0, 0, 0, 0] 0 (nin A3.ow x44.1.Txns T ++ nin A2.ow x44.1.Looks L) [] ((x44.1, x44.2.1)) (qz72) rfl (show List.Perm (nin A3.ow x44.1.Txns T ++ nin A2.ow x44.1.Looks L) ((nin A3.ow x44.1.Txns T ++ nin A2.ow x44.1.Looks L) ++ []) from B8) B0 (E6 rfl (A6 rfl B0))
 intro h47
 refine R3 ?_
 refine O8 3 1 rfl rfl rfl rfl F4 ?_
 intro v11
 refine R9 ?_
 refine AWP.le (C1 [0] rfl) ?_
 refine T8 [(0, _), (1, _), (5, _), (6, _), (7, _), (49, _), (50, _)] _ (fun (i : Nat) (tm : List Int) (u : Value) => i ≤ (r3 w.Cuts tx).length ∧ tm.length = i) (fun (i : Nat) (tm : List Int) (u : Value) => [.arr u 3 1 (tm.map fun n => [AV.int n])]) (fun (i : Nat) (tm : List Int) (u : Value) => [(11, AV.is u), (51, AV.int i)]) (fun (i : Nat) (tm : List Int) (u : Value) => (r3 w.Cuts tx).length - i) (0) ([]) (v11) ?_ (I8 B0 ⟨rfl, rfl, rfl, rfl, rfl, rfl, rfl, rfl, rfl, trivial⟩) ?_
 ·exact ⟨Nat.zero_le _, rfl⟩
 intro i tm u hinv
 refine R5 ?_
 refine A8 (A0 rfl) ?_ ?_
 ·intro h52
  have k52 := of_decide_eq_true h52; try simp only [A5] at k52
  have hlt : i < (r3 w.Cuts tx).length := (by simpa using h52)
  obtain ⟨p, hp⟩ := get_some hlt
  have hpi := BQ4 (C6 hp)
  obtain ⟨gp, hxp⟩ := BE8 ok44.wi (by rw [ok44.ws.cuts]; exact hpi)
  have hgp := ok44.wi.groups gp (C6 hxp)
  have hgpl := (List.getElem?_eq_some_iff.1 hxp).1
  have hsh := (BV2 hgp.good).hlen
  have hTv : T.length = x44.1.Txns.length := hT.trans ok44.ws.txns.symm
  have htv : (t - 1).toNat < x44.1.Txns.length := qz8
  refine R5 ?_
  refine A4 rfl (C7 rfl B3 B4 (A0 rfl) (A0 rfl) hp qz4) ?_
  refine R11 ?_
  refine A4 rfl (D7 3 rfl G8 C9 (A0 rfl) rfl (A0 rfl) qz8 AM8) ?_
  refine A4 rfl (X5 3 rfl (A0 rfl) rfl K3 C9 (by first | exact (L9 hxp) | exact B5 ((L9 hxp)) | exact B5 (B5 ((L9 hxp))) | exact B5 (B5 (B5 ((L9 hxp)))) | exact B5 (B5 (B5 (B5 ((L9 hxp))))) | exact B5 (B5 (B5 (B5 (B5 ((L9 hxp))))))) D0) ?_
  refine A4 rfl (B2 rfl Tryz.call146 rfl (Au2 gp hgp.good) (A1 (A0 rfl) A7)) ?_
  refine R1 ?_
  refine A4 rfl (B2 rfl Tryz.call219 rfl (AE9 (AJ0 gp) t qz8) (A1 (A0 rfl) (A1 (A0 rfl) A7))) ?_
  refine R4 ?_
  intro b14
  refine R9 ?_
  refine A8 (A0 rfl) ?_ ?_
  ·intro h70
   refine R6 ?_
   refine A4 rfl (C7 rfl B3 B4 (A0 rfl) D8 hp0 qz4) ?_
   refine R3 ?_
   refine I2 [2, 2, 2, 2, 2, 2, 2] 2 7 (nin A3.ow x44.1.Txns T ++ nin A2.ow x44.1.Looks L) ([]) (fun zz => nin A3.ow zz.1.Txns T ++ nin A2.ow zz.1.Looks L) rfl rfl rfl rfl Tryz.call232 rfl rfl (show List.Perm (nin A3.ow x44.1.Txns T ++ nin A2.ow x44.1.Looks L) ((nin A3.ow x44.1.Txns T ++ nin A2.ow x44.1.Looks L) ++ ([])) from B8) (Bs3 b x44.1 X T L t p p0 (readsR tx.Got) (N9 tx.Ops tx.Got).2.2 gp ok44.wi hTv ⟨ht.1, htv⟩ hpi.1 hxp hz hk) (A1 (A0 rfl) (A1 (A0 rfl) (A1 (A0 rfl) (A1 (A0 rfl) (A1 (A0 rfl) (A1 (A0 rfl) A7)))))) (fun a => K0) ?_
   intro x79 ok79
   refine R3 ?_
   exact H4 [0, 0, 0, 0, 0, 0, 0] 2 (nin A3.ow x79.1.Txns T ++ nin A2.ow x79.1.Looks L) [] ((x79.1, x79.2)) (qz72) rfl (show List.Perm (nin A3.ow x79.1.Txns T ++ nin A2.ow x79.1.Looks L) ((nin A3.ow x79.1.Txns T ++ nin A2.ow x79.1.Looks L) ++ []) from B8) B0 (E6 rfl (A6 rfl B0))
  intro h70
  refine R6 ?_
  refine G0 (by' := 8) 1 rfl rfl rfl rfl B3 Tryz.type3 rfl rfl rfl rfl rfl rfl (A0 rfl) (A0 rfl) rfl AY0 ?_
  intro v84_1
  refine R6 ?_
  refine N7 i tm u (i + 1) (tm ++ [(heldFO (AJ0 gp).Held t).1.Time]) (v84_1) ?_ ?_ (Le.trans (C1 [0, 0] rfl) (E3 1 Ab1 ⟨rfl, rfl, rfl, rfl, rfl, rfl, rfl, rfl, rfl, trivial⟩))
  ·exact ⟨by omega, by rw [G2, hinv.2]; rfl⟩
  omega
 intro h52
 have k52 := of_decide_eq_false h52; try simp only [A5] at k52
 refine R2 ?_
 refine I5 w8 ?_
 refine R4 ?_
 refine A4 rfl (C7 rfl B3 B4 (A0 rfl) D8 hp0 qz4) ?_
 refine R2 ?_
 refine I2 [0, 0, 0, 0, 0, 0, 0, 0] 0 8 (nin A3.ow x44.1.Txns T ++ nin A2.ow x44.1.Looks L) ([]) (fun zz => nin A3.ow x44.1.Txns T ++ nin A2.ow x44.1.Looks L) rfl rfl rfl rfl Tryz.call229 rfl rfl (show List.Perm (nin A3.ow x44.1.Txns T ++ nin A2.ow x44.1.Looks L) ((nin A3.ow x44.1.Txns T ++ nin A2.ow x44.1.Looks L) ++ ([])) from B8) (Bs4 u b x44.1 X T L t p0 true tm g0 qz8 ok44.wi hpr.1 (by rw [ok44.gr]; exact hx0)) (A1 (A0 rfl) (A1 (A0 rfl) (A1 (A0 rfl) (A1 w5 (A1 (A0 rfl) A7))))) (fun a => K0) ?_
 intro x92 ok92
 refine R3 ?_
 exact H4 [1, 1, 1, 1, 1, 1, 1] 1 (nin A3.ow x44.1.Txns T ++ nin A2.ow x44.1.Looks L) [] ((wGroup x44.1 p0.toNat x92.1, x92.2)) (qz72) rfl (show List.Perm (nin A3.ow x44.1.Txns T ++ nin A2.ow x44.1.Looks L) ((nin A3.ow x44.1.Txns T ++ nin A2.ow x44.1.Looks L) ++ []) from B8) B0 (E6 rfl (A6 rfl B0))
theorem dead_own (b : Nat) (w : TWorld) (X : WX) (T : List (Value × Value)) (L : List Value) (t : Int) (hw : WI w) (hq : ∀ tx, w.Txns[(t - 1).toNat]? = some tx → 0 ≤ tx.Begin ∧ tx.Begin < w.Count) (hT : T.length = w.Txns.length) (ht : 1 ≤ t ∧ (t - 1).toNat < w.Txns.length) : C8 Tryz.prog 210 [AV.ptr b 0, AV.int t] (WB b w X T L) (fun v : TWorld × Bool => WI v.1 ∧ WS w v.1) (fun v => WB b v.1 X T L) (fun v => AV.bool v.2) := by
 have hng := hw.n
 have htn := hw.txns.1
 obtain ⟨tx, htx⟩ := get_some ht.2
 obtain ⟨y, hy⟩ := get_some (show (t - 1).toNat < T.length by omega)
 have htk := hw.txns.2 tx (C6 htx)
 have hwf := wf_end hw htx (hq tx htx)
 obtain ⟨W', hW⟩ : ∃ W', wTxn w (t - 1).toNat (BN0 tx w.Count) = W' := ⟨_, rfl⟩
 rw [hW] at hwf
 have hfr := An4 b W' X T L t hwf.wi
 refine C3 Tryz.func210 rfl Tryz.ntmps210 rfl ?_
 refine R13 ?_
 refine A4 rfl (D7 5 rfl K4 O6 (A0 rfl) rfl (A0 rfl) qz8 AM8) ?_
 refine R6 ?_
 refine A4 rfl (T1 5 rfl (A0 rfl) rfl qz2 rfl) ?_
 refine A4 rfl (J2 5 rfl H8 rfl O9 (A0 rfl) rfl rfl qz2) ?_
 refine A4 rfl (K5 5 rfl (A0 rfl) rfl e8 qz2 rfl) ?_
 refine R2 ?_
 refine A8 (A0 rfl) ?_ ?_
 ·intro h24
  refine R8 ?_
  refine A4 rfl (T1 5 rfl (A0 rfl) rfl qz2 rfl) ?_
  refine A4 rfl (J2 5 rfl H8 rfl B4 (A0 rfl) rfl rfl qz2) ?_
  refine T3 5 rfl rfl rfl (A0 rfl) (A0 rfl) (M5 _ _) rfl B4 qz2 rfl ?_
  refine R2 ?_
  refine I5 (show _ = WB b W' X T L from (by rw [← hW]; unfold WB wTxn; dsimp only; rw [l4 htx hy, AF2 (p' := BN0 tx w.Count) htx (fun _ => rfl)]; rfl)) ?_
  refine R3 ?_
  refine I2 [0, 0, 0, 0, 0, 0, 0] 0 7 (nin A3.ow W'.Txns T ++ nin A2.ow W'.Looks L) ([]) (fun zz => nin A3.ow W'.Txns T ++ nin A2.ow W'.Looks L) rfl rfl rfl rfl Tryz.call198 rfl rfl (show List.Perm (nin A3.ow W'.Txns T ++ nin A2.ow W'.Looks L) ((nin A3.ow W'.Txns T ++ nin A2.ow W'.Looks L) ++ ([])) from B8) (hfr) (A1 (A0 rfl) (A1 (A0 rfl) A7)) (fun a => K0) ?_
  intro x35 ok35
  refine R6 ?_
  exact H4 [0, 0, 0, 0, 0, 0, 0] 0 (nin A3.ow W'.Txns T ++ nin A2.ow W'.Looks L) [] ((t6 W' x35, true)) (qz66) rfl (show List.Perm (nin A3.ow W'.Txns T ++ nin A2.ow W'.Looks L) ((nin A3.ow W'.Txns T ++ nin A2.ow W'.Looks L) ++ []) from B8) B0 (E6 rfl (A6 rfl B0))
 intro h24
 refine R2 ?_
 refine AWP.le (O2 7 (t := ([Go.AV.Own.arr y.1 45 3 (tx.Got.map G4.cs), Go.AV.Own.arr y.2 3 1 (tx.Terms.map fun n => [AV.int n])]) ++ (nin A3.ow (w.Txns.eraseIdx (t - 1).toNat) (T.eraseIdx (t - 1).toNat) ++ nin A2.ow w.Looks L)) (s9 htx hy)) ?_
 refine M7 _ [(0, false), (1, false), (2, false), (3, false), (4, false), (5, false), (6, false), (7, false), (8, true), (9, false), (10, false), (11, false), (12, false), (13, false), (14, false), (15, false), (16, false)] F1 F1 rfl (P1 7) ?_
 refine R6 ?_
 refine M8 rfl rfl rfl (fun ext => T1 5 rfl (A0 rfl) rfl qz2 rfl) ?_
 refine M8 rfl rfl rfl (fun ext => X5 5 rfl (A0 rfl) rfl Tryz.isAgg143 O6 qz2 D0) ?_
 refine S1 rfl rfl rfl (Y6 7 (P2 [7, 7] rfl Tryz.call128 rfl (BY4 w.Cuts tx y htk.sb) (A1 (A0 rfl) (A1 (A0 rfl) A7)) rfl)) (fun a _ => qz3) ?_
 intro x45 ok45
 refine R13 ?_
 refine AWP.le (C1 [0, 0, 0, 0, 0, 0, 0, 0, 0] rfl) ?_
 refine AWP.le (O2 7 (t := nin A3.ow w.Txns T ++ nin A2.ow w.Looks L) ((s9 htx hy).symm)) ?_
 refine I5 w8 ?_
 refine R4 ?_
 refine A8 (A0 rfl) ?_ ?_
 ·intro h51
  refine R5 ?_
  exact H4 [0, 0, 0, 0, 0, 0, 0] 0 (nin A3.ow w.Txns T ++ nin A2.ow w.Looks L) [] ((w, false)) (qz66) rfl (show List.Perm (nin A3.ow w.Txns T ++ nin A2.ow w.Looks L) ((nin A3.ow w.Txns T ++ nin A2.ow w.Looks L) ++ []) from B8) B0 (E6 rfl (A6 rfl B0))
 intro h51
 have hso : AJ2 tx = true := (by simpa using h51)
 obtain ⟨p0, hp0⟩ := BY3 (cuts := w.Cuts) hso
 have hpr := BQ4 (C6 hp0)
 obtain ⟨g0, hx0⟩ := BE8 hw hpr
 refine R7 ?_
 refine A4 rfl (C7 rfl B3 B4 (A0 rfl) D8 hp0 qz4) ?_
 refine R1 ?_
 refine I2 [0, 0, 0, 0, 0, 0, 0] 0 7 (nin A3.ow w.Txns T ++ nin A2.ow w.Looks L) ([]) (fun zz => nin A3.ow zz.1.Txns T ++ nin A2.ow zz.1.Looks L) rfl rfl rfl rfl Tryz.call228 rfl rfl (show List.Perm (nin A3.ow w.Txns T ++ nin A2.ow w.Looks L) ((nin A3.ow w.Txns T ++ nin A2.ow w.Looks L) ++ ([])) from B8) (Bl5 b w X T L t p0 g0 hw hq hT ht hpr.1 hx0) (A1 (A0 rfl) (A1 (A0 rfl) (A1 (A0 rfl) A7))) (fun a => K0) ?_
 intro x58 ok58
 refine R7 ?_
 refine I5 w8 ?_
 refine R3 ?_
 refine A8 (A0 rfl) ?_ ?_
 ·intro h61
  refine R6 ?_
  exact H4 [0, 0, 0, 0, 0, 0, 0] 0 (nin A3.ow x58.1.Txns T ++ nin A2.ow x58.1.Looks L) [] ((x58.1, x58.2.1)) (qz66) rfl (show List.Perm (nin A3.ow x58.1.Txns T ++ nin A2.ow x58.1.Looks L) ((nin A3.ow x58.1.Txns T ++ nin A2.ow x58.1.Looks L) ++ []) from B8) B0 (E6 rfl (A6 rfl B0))
 intro h61
 refine R6 ?_
 refine A4 rfl (C7 rfl B3 B4 (A0 rfl) D8 hp0 qz4) ?_
 refine R1 ?_
 refine I2 [0, 0, 0, 0, 0, 0, 0] 0 7 (nin A3.ow x58.1.Txns T ++ nin A2.ow x58.1.Looks L) ([]) (fun zz => nin A3.ow x58.1.Txns T ++ nin A2.ow x58.1.Looks L) rfl rfl rfl rfl Tryz.call229 rfl rfl (show List.Perm (nin A3.ow x58.1.Txns T ++ nin A2.ow x58.1.Looks L) ((nin A3.ow x58.1.Txns T ++ nin A2.ow x58.1.Looks L) ++ ([])) from B8) (CC6 b x58.1 X T L t p0 false [] g0 ok58.wi hpr.1 (by rw [ok58.gr]; exact hx0)) (A1 (A0 rfl) (A1 (A0 rfl) (A1 (A0 rfl) (A1 w5 (A1 P8 A7))))) (fun a => K0) ?_
 intro x68 ok68
 refine R3 ?_
 exact H4 [0, 0, 0, 0, 0, 0, 0] 0 (nin A3.ow x58.1.Txns T ++ nin A2.ow x58.1.Looks L) [] ((wGroup x58.1 p0.toNat x68.1, x68.2)) (qz66) rfl (show List.Perm (nin A3.ow x58.1.Txns T ++ nin A2.ow x58.1.Looks L) ((nin A3.ow x58.1.Txns T ++ nin A2.ow x58.1.Looks L) ++ []) from B8) B0 (E6 rfl (A6 rfl B0))
end Go.Proofs.YtcfkbhnpfjjmjaaGreat
namespace Go.M
open Go.AV
theorem CC8 {s : G6} (g : GS s) (n : Int) : 0 ≤ (heldFO s.Held n).1.Lead ∧ (heldFO s.Held n).1.Lead ≤ 3 := by
  unfold heldFO
  cases hf : findH s.Held n with
  | none => exact ⟨Int.le_refl 0, by decide⟩
  | some h =>
    have h1 := (g.good h (AW1 hf).1).1
    unfold goodRec good1 hRec at h1
    rw [if_pos rfl] at h1
    simp only [Bool.and_eq_true] at h1
    have h2 := h1.1.1.1.1.1.1.2
    unfold within at h2
    rw [Bool.and_eq_true, decide_eq_true_eq, decide_eq_true_eq] at h2
    exact h2
end Go.M
namespace Go.Proofs.YtcfkbhnpfjjmjaaGreat
open Go Go.AV Go.M
attribute [local irreducible] OpW OpA OpS AWP B9 J5 C8 OpE RetOk H1 I9 Le Ev F6 J9 V9 Int.tmod Int.tdiv IntKind.wrap bandI
theorem Bl6 (b : Nat) (w : TWorld) (X : WX) (T : List (Value × Value)) (L : List Value) (g t : Int) (gi : TGroup) (hw : WI w) (h0 : 0 ≤ g) (hx : w.Groups[g.toNat]? = some gi) : C8 Tryz.prog 214 [AV.ptr b 0, AV.int g, AV.int t] (WB b w X T L) (fun v : TWorld × Bool => WI v.1 ∧ WS w v.1) (fun v => WB b v.1 X T L) (fun v => AV.bool v.2) := by
 have hng := hw.n
 have hgi := hw.groups gi (C6 hx)
 have hgl := (List.getElem?_eq_some_iff.1 hx).1
 refine C3 Tryz.func214 rfl Tryz.ntmps214 rfl ?_
 refine R13 ?_
 refine A4 rfl (D7 2 rfl G8 C9 (A0 rfl) rfl (A0 rfl) AC8 (by first | (simp only [A5]; omega) | (simp at hc ⊢; omega))) ?_
 refine A4 rfl (X5 2 rfl (A0 rfl) rfl K3 C9 qz99 D0) ?_
 refine A4 rfl (B2 rfl Tryz.call200 rfl (j3 gi hgi.good) (A1 (A0 rfl) A7)) ?_
 refine R2 ?_
 refine A8 (A0 rfl) ?_ ?_
 ·intro h22
  refine R5 ?_
  exact H4 [0, 0, 0, 0, 0, 0, 0] 0 (nin A3.ow w.Txns T ++ nin A2.ow w.Looks L) [] ((w, false)) (BN9) rfl (show List.Perm (nin A3.ow w.Txns T ++ nin A2.ow w.Looks L) ((nin A3.ow w.Txns T ++ nin A2.ow w.Looks L) ++ []) from B8) B0 (E6 rfl (A6 rfl B0))
 intro h22
 have hrd : q7 gi = true := Ai1
 have hl := k6 hrd
 have hgs := n6 hgi.good hl
 have htl := hgs.tlen
 have hhl := hgs.hlen
 have hhs := AE9 (leadFull gi) t qz8
 have hld := CC8 hgs t
 obtain ⟨H, hH⟩ : ∃ H, heldFO (leadFull gi).Held t = H := ⟨_, rfl⟩
 rw [hH] at hhs hld
 obtain ⟨gl, hgx⟩ : ∃ gl : TGroup, H.1.Lead.toNat < w.Groups.length → w.Groups[H.1.Lead.toNat]? = some gl := ⟨(w.Groups[H.1.Lead.toNat]?).getD gi, fun h9 => by rw [List.getElem?_eq_getElem h9]; rfl⟩
 refine R5 ?_
 refine A4 rfl (X6 [0, 0, 0, 0, 0, 0, 0] 0 (nin A3.ow w.Txns T ++ nin A2.ow w.Looks L) ([]) rfl Tryz.call180 rfl rfl (B8) (AA4 b w X T L g gi hx h0 hgi.good hl) (A1 (A0 rfl) (A1 (A0 rfl) A7))) ?_
 refine R1 ?_
 refine A4 rfl (B2 rfl Tryz.call219 rfl (hhs) (A1 (A0 rfl) (A1 (A0 rfl) A7))) ?_
 refine R4 ?_
 intro b7
 refine R5 ?_
 refine I5 w8 ?_
 refine R22 ?_
 refine M6 rfl (V7 rfl rfl rfl) (fun hc => D7 3 rfl G8 C9 (B1 rfl hc) rfl (B1 rfl hc) AC8 (by first | (simp only [A5]; omega) | (simp at hc ⊢; omega))) ?_
 refine M6 rfl (V7 rfl rfl rfl) (fun hc => X5 3 rfl (B1 rfl hc) rfl K3 C9 qz99 D0) ?_
 refine M6 rfl (V7 rfl rfl rfl) (fun hc => B2 rfl Tryz.call200 rfl (j3 gl (hw.groups gl (C6 (hgx (by simp at hc; omega)))).good) (A1 (B1 rfl hc) A7)) ?_
 refine R3 ?_
 refine A8 (A0 rfl) ?_ ?_
 ·intro h56
  refine R5 ?_
  exact H4 [1, 1, 1, 1, 1, 1, 1] 1 (nin A3.ow w.Txns T ++ nin A2.ow w.Looks L) [] ((w, false)) (BN9) rfl (show List.Perm (nin A3.ow w.Txns T ++ nin A2.ow w.Looks L) ((nin A3.ow w.Txns T ++ nin A2.ow w.Looks L) ++ []) from B8) B0 (E6 rfl (A6 rfl B0))
 intro h56
 have hfa : H.2 = true ∧ H.1.Lead.toNat < w.Groups.length ∧ q7 gl = true := (by simp at h56; exact ⟨h56.1.1, by omega, h56.2⟩)
 have hxl := hgx hfa.2.1
 have hgg := hw.groups gl (C6 hxl)
 have hll := k6 hfa.2.2
 have hsl := AJ5 hgg.good hll
 have hfl := n6 hgg.good hll
 have hst := hsl.tlen
 have hft := hfl.tlen
 have hput := AG9 b w X T L g ⟨2, t, 0, 0, [], [], false⟩ gi hx h0 hgi (show (0 : Nat) ≤ 1000 from by decide) (fun w9 hw9 => by cases hw9)
 have hput2 := AG9 b w X T L g ⟨3, t, (toldFO (leadSure gl).Told t).1.Time, 0, [], [], (toldFO (leadSure gl).Told t).1.Yes⟩ gi hx h0 hgi (show (0 : Nat) ≤ 1000 from by decide) (fun w9 hw9 => by cases hw9)
 have hput3 := AG9 b w X T L H.1.Lead ⟨2, t, 0, 0, [], [], false⟩ gl hxl hld.1 hgg (show (0 : Nat) ≤ 1000 from by decide) (fun w9 hw9 => by cases hw9)
 refine R9 ?_
 refine A8 (A0 rfl) ?_ ?_
 ·intro h60
  have k60 := D2 h60; try simp only [A5] at k60
  refine R6 ?_
  refine I2 [1, 1, 1, 1, 1, 1, 1] 1 7 (nin A3.ow w.Txns T ++ nin A2.ow w.Looks L) ([]) (fun zz => nin A3.ow w.Txns T ++ nin A2.ow w.Looks L) rfl rfl rfl rfl Tryz.call178 rfl rfl (show List.Perm (nin A3.ow w.Txns T ++ nin A2.ow w.Looks L) ((nin A3.ow w.Txns T ++ nin A2.ow w.Looks L) ++ ([])) from B8) (hput) (A1 (A0 rfl) (A1 (A0 rfl) (A1 (i9 (A0 rfl) AM2) A7))) (fun a => K0) ?_
  intro x65 ok65
  refine R3 ?_
  exact H4 [0, 0, 0, 0, 0, 0, 0] 1 (nin A3.ow w.Txns T ++ nin A2.ow w.Looks L) [] ((wGroup w g.toNat x65.1, x65.2)) (BN9) rfl (show List.Perm (nin A3.ow w.Txns T ++ nin A2.ow w.Looks L) ((nin A3.ow w.Txns T ++ nin A2.ow w.Looks L) ++ []) from B8) B0 (E6 rfl (A6 rfl B0))
 intro h60
 have k60 := D6 h60; try simp only [A5] at k60
 refine R7 ?_
 refine A4 rfl (X6 [1, 1, 1, 1, 1, 1, 1] 1 (nin A3.ow w.Txns T ++ nin A2.ow w.Looks L) ([]) rfl Tryz.call202 rfl rfl (B8) (AM1 b w X T L H.1.Lead gl hxl hld.1 hgg.good hll) (A1 (A0 rfl) (A1 (A0 rfl) A7))) ?_
 refine R1 ?_
 refine A4 rfl (B2 rfl Tryz.call147 rfl (m3 (leadSure gl) t qz8) (A1 (A0 rfl) (A1 (A0 rfl) A7))) ?_
 refine R4 ?_
 intro b9
 refine R4 ?_
 refine I5 w8 ?_
 refine R3 ?_
 refine A8 (A0 rfl) ?_ ?_
 ·intro h75
  refine R10 ?_
  refine I2 [2, 2, 2, 2, 2, 2, 2] 2 7 (nin A3.ow w.Txns T ++ nin A2.ow w.Looks L) ([]) (fun zz => nin A3.ow w.Txns T ++ nin A2.ow w.Looks L) rfl rfl rfl rfl Tryz.call178 rfl rfl (show List.Perm (nin A3.ow w.Txns T ++ nin A2.ow w.Looks L) ((nin A3.ow w.Txns T ++ nin A2.ow w.Looks L) ++ ([])) from B8) (hput2) (A1 (A0 rfl) (A1 (A0 rfl) (A1 (i9 (A0 rfl) AM2) A7))) (fun a => K0) ?_
  intro x84 ok84
  refine R3 ?_
  exact H4 [0, 0, 0, 0, 0, 0, 0] 2 (nin A3.ow w.Txns T ++ nin A2.ow w.Looks L) [] ((wGroup w g.toNat x84.1, x84.2)) (BN9) rfl (show List.Perm (nin A3.ow w.Txns T ++ nin A2.ow w.Looks L) ((nin A3.ow w.Txns T ++ nin A2.ow w.Looks L) ++ []) from B8) B0 (E6 rfl (A6 rfl B0))
 intro h75
 refine R7 ?_
 refine A4 rfl (X6 [2, 2, 2, 2, 2, 2, 2] 2 (nin A3.ow w.Txns T ++ nin A2.ow w.Looks L) ([]) rfl Tryz.call180 rfl rfl (B8) (AA4 b w X T L H.1.Lead gl hxl hld.1 hgg.good hll) (A1 (A0 rfl) (A1 (A0 rfl) A7))) ?_
 refine R1 ?_
 refine A4 rfl (B2 rfl Tryz.call147 rfl (m3 (leadFull gl) t qz8) (A1 (A0 rfl) (A1 (A0 rfl) A7))) ?_
 refine R4 ?_
 intro b11
 refine R7 ?_
 refine A8 (A0 rfl) ?_ ?_
 ·intro h94
  refine R5 ?_
  refine I2 [3, 3, 3, 3, 3, 3, 3] 3 7 (nin A3.ow w.Txns T ++ nin A2.ow w.Looks L) ([]) (fun zz => nin A3.ow w.Txns T ++ nin A2.ow w.Looks L) rfl rfl rfl rfl Tryz.call184 rfl rfl (show List.Perm (nin A3.ow w.Txns T ++ nin A2.ow w.Looks L) ((nin A3.ow w.Txns T ++ nin A2.ow w.Looks L) ++ ([])) from B8) (AG8 b w X T L H.1.Lead gl hxl hld.1 hgg) (A1 (A0 rfl) (A1 (A0 rfl) A7)) (fun a => K0) ?_
  intro x98 ok98
  refine R6 ?_
  exact H4 [0, 0, 0, 0, 0, 0, 0] 3 (nin A3.ow w.Txns T ++ nin A2.ow w.Looks L) [] ((wGroup w H.1.Lead.toNat x98, true)) (BN9) rfl (show List.Perm (nin A3.ow w.Txns T ++ nin A2.ow w.Looks L) ((nin A3.ow w.Txns T ++ nin A2.ow w.Looks L) ++ []) from B8) B0 (E6 rfl (A6 rfl B0))
 intro h94
 refine R8 ?_
 refine I2 [3, 3, 3, 3, 3, 3, 3] 3 7 (nin A3.ow w.Txns T ++ nin A2.ow w.Looks L) ([]) (fun zz => nin A3.ow w.Txns T ++ nin A2.ow w.Looks L) rfl rfl rfl rfl Tryz.call178 rfl rfl (show List.Perm (nin A3.ow w.Txns T ++ nin A2.ow w.Looks L) ((nin A3.ow w.Txns T ++ nin A2.ow w.Looks L) ++ ([])) from B8) (hput3) (A1 (A0 rfl) (A1 (A0 rfl) (A1 (i9 (A0 rfl) AM2) A7))) (fun a => K0) ?_
 intro x104 ok104
 refine R3 ?_
 exact H4 [0, 0, 0, 0, 0, 0, 0] 3 (nin A3.ow w.Txns T ++ nin A2.ow w.Looks L) [] ((wGroup w H.1.Lead.toNat x104.1, x104.2)) (BN9) rfl (show List.Perm (nin A3.ow w.Txns T ++ nin A2.ow w.Looks L) ((nin A3.ow w.Txns T ++ nin A2.ow w.Looks L) ++ []) from B8) B0 (E6 rfl (A6 rfl B0))
theorem BL0 (b : Nat) (w : TWorld) (X : WX) (T : List (Value × Value)) (L : List Value) (t : Int) (hw : WI w) : C8 Tryz.prog 197 [AV.ptr b 0, AV.int t] (WB b w X T L) (fun v : TWorld × Bool => WI v.1 ∧ WS w v.1) (fun v => WB b v.1 X T L) (fun v => AV.bool v.2) := by
 have hng := hw.n
 refine C3 Tryz.func197 rfl Tryz.ntmps197 rfl ?_
 refine R16 ?_
 refine AWP.le (C1 [0, 0, 0, 0, 0, 0, 0] rfl) ?_
 refine J7 [(0, _), (1, _), (11, _)] [] (fun (i : Nat) (v : TWorld) => i ≤ w.Groups.length ∧ WI v ∧ WS w v) (fun (i : Nat) (v : TWorld) => [.box b 199 [AV.int v.Now, AV.int v.Count, AV.is X.cl, strs v.Cuts, AV.is X.gr, AV.is X.lo, AV.is X.pr, AV.is X.tx, AV.is X.lk], .arr X.cl 234 1 (v.Clocks.map V6.cs), .arr X.gr 178 3 (v.Groups.map TGroup.cs), .arr X.lo 203 1 (v.Locks.map fun l => [AV.list 3 (l.map I0.cs)]), .arr X.pr 3 1 (v.Promised.map fun n => [AV.int n]), .arr X.tx 143 10 (nrows A3.ocs v.Txns T), .arr X.lk 152 6 (nrows A2.ocs v.Looks L)] ++ (nin A3.ow v.Txns T ++ nin A2.ow v.Looks L)) (fun (i : Nat) (v : TWorld) => [(12, AV.int i)]) (fun (i : Nat) (v : TWorld) => w.Groups.length - i) (0) (w) ?_ (I8 (by (rw [List.append_nil]; rfl)) ⟨rfl, rfl, rfl, rfl, trivial⟩) ?_
 ·exact ⟨Nat.zero_le _, hw, WS.refl w⟩
 intro i v hinv
 refine I5 (List.append_nil _) ?_
 refine R5 ?_
 refine A8 (A0 rfl) ?_ ?_
 ·intro h13
  have k13 := of_decide_eq_true h13; try simp only [A5] at k13
  have hlt : i < w.Groups.length := Av9
  obtain ⟨gi, hgi⟩ := get_some (show ((i : Nat) : Int).toNat < v.Groups.length by rw [hinv.2.2.groups]; omega)
  refine R13 ?_
  refine I2 [0, 0, 0, 0, 0, 0, 0] 0 7 (nin A3.ow v.Txns T ++ nin A2.ow v.Looks L) ([]) (fun zz => nin A3.ow zz.1.Txns T ++ nin A2.ow zz.1.Looks L) rfl rfl rfl rfl Tryz.call214 rfl rfl (show List.Perm (nin A3.ow v.Txns T ++ nin A2.ow v.Looks L) ((nin A3.ow v.Txns T ++ nin A2.ow v.Looks L) ++ ([])) from B8) (Bl6 b v X T L (i : Int) t gi hinv.2.1 qz8 hgi) (A1 (A0 rfl) (A1 (A0 rfl) (A1 (A0 rfl) A7))) (fun a => K0) ?_
  intro x18 ok18
  refine R1 ?_
  refine A8 (A0 rfl) ?_ ?_
  ·intro h18
   refine R5 ?_
   exact H4 [0, 0, 0, 0, 0, 0, 0] 0 (nin A3.ow x18.1.Txns T ++ nin A2.ow x18.1.Looks L) [] ((x18.1, true)) ((by first | exact ⟨ok18.1, hinv.2.2.trans ok18.2⟩ | exact hinv.2)) rfl (show List.Perm (nin A3.ow x18.1.Txns T ++ nin A2.ow x18.1.Looks L) ((nin A3.ow x18.1.Txns T ++ nin A2.ow x18.1.Looks L) ++ []) from B8) B0 (E6 rfl (A6 rfl B0))
  intro h18
  refine R5 ?_
  refine G9 i v (i + 1) (x18.1) ?_ ?_ (I8 (Eq.trans B0 (List.append_nil _).symm) ⟨rfl, rfl, rfl, rfl, trivial⟩)
  ·exact ⟨by omega, ok18.1, hinv.2.2.trans ok18.2⟩
  omega
 intro h13
 have k13 := of_decide_eq_false h13; try simp only [A5] at k13
 refine R6 ?_
 exact H4 [0, 0, 0, 0, 0, 0, 0] 0 (nin A3.ow v.Txns T ++ nin A2.ow v.Looks L) [] ((v, false)) ((by first | exact ⟨ok18.1, hinv.2.2.trans ok18.2⟩ | exact hinv.2)) rfl (show List.Perm (nin A3.ow v.Txns T ++ nin A2.ow v.Looks L) ((nin A3.ow v.Txns T ++ nin A2.ow v.Looks L) ++ []) from B8) B0 (E6 rfl (A6 rfl B0))
end Go.Proofs.YtcfkbhnpfjjmjaaGreat
namespace Go.M
open Go.AV
def BN1 (t : A3) (c : Int) : A3 := { t with Begin := c }
theorem wf_beg {w : TWorld} (hw : WI w) {i : Nat} {t : A3} (ht : w.Txns[i]? = some t) (hb : t.Begin < 0) : WF w (wTxn w i (BN1 t w.Count)) := by
  have h := hw.txns.2 t (C6 ht)
  have hs := h.span
  have h2 := AT9 hw (i := i) (t := BN1 t w.Count) ⟨h.terms, h.ops, h.got, Int.le_refl _, .inl (by show t.End = -1; omega)⟩
  exact ⟨h2.1, h2.2, rfl, rfl⟩
theorem step_ask {n : Nat} {c : Int} {t : A3} (h : Av7 n c t) (e : (N9 t.Ops t.Got).1 = 1) : (N9 t.Ops t.Got).2.1.length ≤ 12 := by
  have hr := ran (got := t.Got) (n := 36) D0 (AG6 h.ops.1)
  obtain ⟨⟨o, ho, ek⟩, _⟩ := hr.ask e
  have := (o7 (h.ops.2 o ho)).2
  rw [← ek]; omega
end Go.M
namespace Go.Proofs.YtcfkbhnpfjjmjaaGreat
open Go Go.AV Go.M
attribute [local irreducible] OpW OpA OpS AWP B9 J5 C8 OpE RetOk H1 I9 Le Ev F6 J9 V9 Int.tmod Int.tdiv IntKind.wrap bandI
theorem goOn_own (b : Nat) (w : TWorld) (X : WX) (T : List (Value × Value)) (L : List Value) (t : Int) (hw : WI w) (hc : ∀ x ∈ w.Txns, x.Begin < w.Count) (hT : T.length = w.Txns.length) (ht : 1 ≤ t ∧ (t - 1).toNat < w.Txns.length) : C8 Tryz.prog 196 [AV.ptr b 0, AV.int t] (WB b w X T L) (fun v : (TWorld × Bool) × List (Value × Value) => (WI v.1.1 ∧ WS w v.1.1) ∧ v.2.length = T.length) (fun v => WB b v.1.1 X v.2 L) (fun v => AV.bool v.1.2) := by
 have hng := hw.n
 have htn := hw.txns.1
 obtain ⟨tx, htx⟩ := get_some ht.2
 obtain ⟨y, hy⟩ := get_some (show (t - 1).toNat < T.length by omega)
 have htk := hw.txns.2 tx (C6 htx)
 have hsb := htk.sb
 have hstep := Af9 tx.Ops y.1 tx.Got hsb.len hsb.ops hsb.got.2
 refine C3 Tryz.func196 rfl Tryz.ntmps196 rfl ?_
 refine R13 ?_
 refine A4 rfl (D7 5 rfl K4 O6 (A0 rfl) rfl (A0 rfl) qz8 AM8) ?_
 refine R7 ?_
 refine A4 rfl (T1 5 rfl (A0 rfl) rfl qz2 rfl) ?_
 refine A4 rfl (J2 5 rfl H8 rfl O9 (A0 rfl) rfl rfl qz2) ?_
 refine A4 rfl (K5 5 rfl (A0 rfl) rfl e8 qz2 rfl) ?_
 refine R2 ?_
 refine A8 (A0 rfl) ?_ ?_
 ·intro h17
  refine R5 ?_
  exact H4 [0, 0, 0, 0, 0, 0, 0] 0 (nin A3.ow w.Txns T ++ nin A2.ow w.Looks L) [] (((w, false), T)) (BC2) rfl (show List.Perm (nin A3.ow w.Txns T ++ nin A2.ow w.Looks L) ((nin A3.ow w.Txns T ++ nin A2.ow w.Looks L) ++ []) from B8) B0 (E6 rfl (A6 rfl B0))
 intro h17
 refine R3 ?_
 refine A4 rfl (T1 5 rfl (A0 rfl) rfl qz2 rfl) ?_
 refine A4 rfl (J2 5 rfl H8 rfl B4 (A0 rfl) rfl rfl qz2) ?_
 refine A4 rfl (K5 5 rfl (A0 rfl) rfl H3 qz2 rfl) ?_
 refine R3 ?_
 refine A8 (A0 rfl) ?_ ?_
 ·intro h22
  have k22 := of_decide_eq_true h22; try simp only [A5] at k22
  have hwf := wf_beg hw htx Ai1
  obtain ⟨W', hW⟩ : ∃ W', wTxn w (t - 1).toNat (BN1 tx w.Count) = W' := ⟨_, rfl⟩
  rw [hW] at hwf
  refine R8 ?_
  refine A4 rfl (T1 5 rfl (A0 rfl) rfl qz2 rfl) ?_
  refine A4 rfl (J2 5 rfl H8 rfl B4 (A0 rfl) rfl rfl qz2) ?_
  refine T3 5 rfl rfl rfl (A0 rfl) (A0 rfl) (M5 _ _) rfl B4 qz2 rfl ?_
  refine R2 ?_
  refine I5 (show _ = WB b W' X T L from (by rw [← hW]; unfold WB wTxn; dsimp only; rw [l4 htx hy, AF2 (p' := BN1 tx w.Count) htx (fun _ => rfl)]; rfl)) ?_
  refine R4 ?_
  exact H4 [0, 0, 0, 0, 0, 0, 0] 0 (nin A3.ow W'.Txns T ++ nin A2.ow W'.Looks L) [] (((W', true), T)) (BC2) rfl (show List.Perm (nin A3.ow W'.Txns T ++ nin A2.ow W'.Looks L) ((nin A3.ow W'.Txns T ++ nin A2.ow W'.Looks L) ++ []) from B8) B0 (E6 rfl (A6 rfl B0))
 intro h22
 have k22 := of_decide_eq_false h22; try simp only [A5] at k22
 have hbg : 0 ≤ tx.Begin := (by simp at h22; omega)
 have hq : ∀ tx, w.Txns[(t - 1).toNat]? = some tx → 0 ≤ tx.Begin ∧ tx.Begin < w.Count := (fun z hz => by rw [htx] at hz; injection hz with hz; subst hz; exact ⟨hbg, hc _ (C6 htx)⟩)
 refine R3 ?_
 refine A4 rfl (T1 5 rfl (A0 rfl) rfl qz2 rfl) ?_
 refine A4 rfl (J2 5 rfl H8 rfl B4 (A0 rfl) rfl rfl qz2) ?_
 refine A4 rfl (K5 5 rfl (A0 rfl) rfl H3 qz2 rfl) ?_
 refine R3 ?_
 refine A8 (A0 rfl) ?_ ?_
 ·intro h36
  have k36 := of_decide_eq_true h36; try simp only [A5] at k36
  refine R4 ?_
  refine I2 [0, 0, 0, 0, 0, 0, 0] 0 7 (nin A3.ow w.Txns T ++ nin A2.ow w.Looks L) ([]) (fun zz => nin A3.ow zz.1.Txns T ++ nin A2.ow zz.1.Looks L) rfl rfl rfl rfl Tryz.call197 rfl rfl (show List.Perm (nin A3.ow w.Txns T ++ nin A2.ow w.Looks L) ((nin A3.ow w.Txns T ++ nin A2.ow w.Looks L) ++ ([])) from B8) (BL0 b w X T L t hw) (A1 (A0 rfl) (A1 (A0 rfl) A7)) (fun a => K0) ?_
  intro x44 ok44
  refine R3 ?_
  exact H4 [0, 0, 0, 0, 0, 0, 0] 0 (nin A3.ow x44.1.Txns T ++ nin A2.ow x44.1.Looks L) [] (((x44.1, x44.2), T)) (BC2) rfl (show List.Perm (nin A3.ow x44.1.Txns T ++ nin A2.ow x44.1.Looks L) ((nin A3.ow x44.1.Txns T ++ nin A2.ow x44.1.Looks L) ++ []) from B8) B0 (E6 rfl (A6 rfl B0))
 intro h36
 have k36 := of_decide_eq_false h36; try simp only [A5] at k36
 refine R3 ?_
 refine A4 rfl (T1 5 rfl (A0 rfl) rfl qz2 rfl) ?_
 refine A4 rfl (J2 5 rfl H8 rfl O9 (A0 rfl) rfl rfl qz2) ?_
 refine A4 rfl (K5 5 rfl (A0 rfl) rfl e8 qz2 rfl) ?_
 refine R2 ?_
 refine A8 (A0 rfl) ?_ ?_
 ·intro h45
  refine R4 ?_
  refine I2 [0, 0, 0, 0, 0, 0, 0] 0 7 (nin A3.ow w.Txns T ++ nin A2.ow w.Looks L) ([]) (fun zz => nin A3.ow zz.1.Txns T ++ nin A2.ow zz.1.Looks L) rfl rfl rfl rfl Tryz.call210 rfl rfl (show List.Perm (nin A3.ow w.Txns T ++ nin A2.ow w.Looks L) ((nin A3.ow w.Txns T ++ nin A2.ow w.Looks L) ++ ([])) from B8) (dead_own b w X T L t hw hq hT ht) (A1 (A0 rfl) (A1 (A0 rfl) A7)) (fun a => K0) ?_
  intro x52 ok52
  refine R3 ?_
  exact H4 [0, 0, 0, 0, 0, 0, 0] 0 (nin A3.ow x52.1.Txns T ++ nin A2.ow x52.1.Looks L) [] (((x52.1, x52.2), T)) (BC2) rfl (show List.Perm (nin A3.ow x52.1.Txns T ++ nin A2.ow x52.1.Looks L) ((nin A3.ow x52.1.Txns T ++ nin A2.ow x52.1.Looks L) ++ []) from B8) B0 (E6 rfl (A6 rfl B0))
 intro h45
 refine R2 ?_
 refine AWP.le (O2 7 (t := ([Go.AV.Own.arr y.1 45 3 (tx.Got.map G4.cs), Go.AV.Own.arr y.2 3 1 (tx.Terms.map fun n => [AV.int n])]) ++ (nin A3.ow (w.Txns.eraseIdx (t - 1).toNat) (T.eraseIdx (t - 1).toNat) ++ nin A2.ow w.Looks L)) (s9 htx hy)) ?_
 refine M7 _ [(0, false), (1, false), (2, false), (3, false), (4, false), (5, false), (6, false), (7, false), (8, true), (9, false), (10, false), (11, false), (12, false), (13, false), (14, false)] F1 F1 rfl (P1 7) ?_
 refine R1 ?_
 refine M8 rfl rfl rfl (fun ext => T1 5 rfl (A0 rfl) rfl qz2 rfl) ?_
 refine M8 rfl rfl rfl (fun ext => J2 5 rfl H8 rfl Tryz.sizeOf121 (A0 rfl) rfl rfl qz2) ?_
 refine M8 rfl rfl rfl (fun ext => K5 5 rfl (A0 rfl) rfl Tryz.isAgg121 qz2 rfl) ?_
 refine R1 ?_
 refine M8 rfl rfl rfl (fun ext => T1 5 rfl (A0 rfl) rfl qz2 rfl) ?_
 refine M8 rfl rfl rfl (fun ext => J2 5 rfl H8 rfl O0 (A0 rfl) rfl rfl qz2) ?_
 refine M8 rfl rfl rfl (fun ext => K5 5 rfl (A0 rfl) rfl Z2 qz2 rfl) ?_
 refine S1 rfl rfl rfl (Y6 8 (P2 [7] rfl Tryz.call129 rfl (hstep) (A1 (A0 rfl) (A1 (A0 rfl) A7)) rfl)) (fun a _ => qz3) ?_
 intro x62 ok62
 refine R11 ?_
 refine AWP.le (C1 [0, 0, 0, 0, 0, 0, 0, 1, 0] rfl) ?_
 refine AWP.le (O2 7 (t := nin A3.ow w.Txns T ++ nin A2.ow w.Looks L) ((s9 htx hy).symm)) ?_
 refine I5 w8 ?_
 refine R9 ?_
 refine A8 (A0 rfl) ?_ ?_
 ·intro h67
  have k67 := D2 h67; try simp only [A5] at k67
  have hkl := step_ask htk (by simpa using h67)
  refine R5 ?_
  refine I2 [0, 0, 0, 0, 0, 0, 0] 0 7 (nin A3.ow w.Txns T ++ nin A2.ow w.Looks L) ([]) (fun zz => nin A3.ow zz.1.1.Txns zz.2 ++ nin A2.ow zz.1.1.Looks L) rfl rfl rfl rfl Tryz.call211 rfl rfl (show List.Perm (nin A3.ow w.Txns T ++ nin A2.ow w.Looks L) ((nin A3.ow w.Txns T ++ nin A2.ow w.Looks L) ++ ([])) from B8) (read_own b w X T L t _ hw hT ht hkl) (A1 (A0 rfl) (A1 (A0 rfl) (A1 (A0 rfl) A7))) (fun a => K0) ?_
  intro x72 ok72
  refine R3 ?_
  exact H4 [0, 0, 0, 0, 0, 0, 0] 0 (nin A3.ow x72.1.1.Txns x72.2 ++ nin A2.ow x72.1.1.Looks L) [] (((x72.1.1, x72.1.2), x72.2)) (BC2) rfl (show List.Perm (nin A3.ow x72.1.1.Txns x72.2 ++ nin A2.ow x72.1.1.Looks L) ((nin A3.ow x72.1.1.Txns x72.2 ++ nin A2.ow x72.1.1.Looks L) ++ []) from B8) B0 (E6 rfl (A6 rfl B0))
 intro h67
 have k67 := D6 h67; try simp only [A5] at k67
 refine R5 ?_
 refine A8 (A0 rfl) ?_ ?_
 ·intro h73
  have k73 := D2 h73; try simp only [A5] at k73
  refine R4 ?_
  refine I2 [0, 0, 0, 0, 0, 0, 0] 0 7 (nin A3.ow w.Txns T ++ nin A2.ow w.Looks L) ([]) (fun zz => nin A3.ow zz.Txns T ++ nin A2.ow zz.Looks L) rfl rfl rfl rfl Tryz.call212 rfl rfl (show List.Perm (nin A3.ow w.Txns T ++ nin A2.ow w.Looks L) ((nin A3.ow w.Txns T ++ nin A2.ow w.Looks L) ++ ([])) from B8) (AX6 b w X T L t hw hT qz8) (A1 (A0 rfl) (A1 (A0 rfl) A7)) (fun a => K0) ?_
  intro x77 ok77
  refine R6 ?_
  exact H4 [0, 0, 0, 0, 0, 0, 0] 0 (nin A3.ow x77.Txns T ++ nin A2.ow x77.Looks L) [] (((x77, true), T)) (BC2) rfl (show List.Perm (nin A3.ow x77.Txns T ++ nin A2.ow x77.Looks L) ((nin A3.ow x77.Txns T ++ nin A2.ow x77.Looks L) ++ []) from B8) B0 (E6 rfl (A6 rfl B0))
 intro h73
 have k73 := D6 h73; try simp only [A5] at k73
 refine R5 ?_
 refine I2 [0, 0, 0, 0, 0, 0, 0] 0 7 (nin A3.ow w.Txns T ++ nin A2.ow w.Looks L) ([]) (fun zz => nin A3.ow zz.1.Txns T ++ nin A2.ow zz.1.Looks L) rfl rfl rfl rfl Tryz.call213 rfl rfl (show List.Perm (nin A3.ow w.Txns T ++ nin A2.ow w.Looks L) ((nin A3.ow w.Txns T ++ nin A2.ow w.Looks L) ++ ([])) from B8) (CC7 b w X T L t hw hq hT ht) (A1 (A0 rfl) (A1 (A0 rfl) A7)) (fun a => K0) ?_
 intro x80 ok80
 refine R3 ?_
 exact H4 [0, 0, 0, 0, 0, 0, 0] 0 (nin A3.ow x80.1.Txns T ++ nin A2.ow x80.1.Looks L) [] (((x80.1, x80.2), T)) (BC2) rfl (show List.Perm (nin A3.ow x80.1.Txns T ++ nin A2.ow x80.1.Looks L) ((nin A3.ow x80.1.Txns T ++ nin A2.ow x80.1.Looks L) ++ []) from B8) B0 (E6 rfl (A6 rfl B0))
end Go.Proofs.YtcfkbhnpfjjmjaaGreat
