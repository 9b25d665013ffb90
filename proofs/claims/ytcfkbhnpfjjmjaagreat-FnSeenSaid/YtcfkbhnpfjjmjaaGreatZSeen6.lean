/- Texts of the claim, part 6. -/
import Derived.RangeFuncNested
import Derived.RangeFuncBound
import Derived.RangeFuncCalls
import Derived.RangeFuncLeaves
import Derived.RangeFuncBox
import Derived.Shelf.Abstract
import Derived.Shelf.RegionOpen
import Derived.WalkKit
import Derived.OwnWalkIn
import Derived.TacticsInMore
import Derived.LoopNIn
import Derived.LoopIn
import Derived.Test.YtcfkbhnpfjjmjaaGreatZSeen5
set_option linter.unusedVariables false
set_option linter.unusedSimpArgs false
set_option maxRecDepth 100000
set_option maxHeartbeats 4000000
namespace Go.Proofs.YtcfkbhnpfjjmjaaGreat
open Go Go.Proofs Go.RowKit Go.Shelf Go.M
attribute [local go_sem] Oper.semAt_some
attribute [local go_sem] Oper.semAt_some
end Go.Proofs.YtcfkbhnpfjjmjaaGreat
namespace Go.Proofs.YtcfkbhnpfjjmjaaGreat
open Go Go.AV Go.M
attribute [local irreducible] OpW OpA OpS AWP B9 J2 RetOk I6 Le Ev F1
theorem CC8 (c : C5) (t : Int) (hl : c.Vers.length ≤ 4194304) : B9 Tryz.prog 217 [AV.agg c.cs, AV.int t] (AV.tup [AV.agg ((verAt c.Vers t).getD zV).cs, AV.bool (verAt c.Vers t).isSome]) := by
 refine B7 Tryz.func217 rfl Tryz.ntmps217 rfl ?_
 refine R3 ?_
 intro b2
 refine R1 ?_
 intro b4
 refine R5 ?_
 intro b6
 refine R14 ?_
 refine E2 [(1, _), (4, _), (5, _), (6, _), (11, _), (12, _)] _ (fun (i : Nat) => i ≤ c.Vers.length) (fun (i : Nat) => [.box b6 255 ((verAt (c.Vers.take i) t).getD zV).cs]) (fun (i : Nat) => [(7, AV.bool (verAt (c.Vers.take i) t).isSome), (13, AV.int i)]) (fun (i : Nat) => c.Vers.length - i) (0) ?_ (H7 B0 ⟨rfl, rfl, rfl, rfl, rfl, rfl, rfl, rfl, trivial⟩) ?_
 ·exact Nat.zero_le _
 intro i hinv
 refine R5 ?_
 refine A6 (A0 rfl) ?_ ?_
 ·intro h14
  have k14 := of_decide_eq_true h14; try simp only [A5] at k14
  have hlt : i < c.Vers.length := by omega
  obtain ⟨x, hx⟩ := get_some hlt
  have hvs := By3 (t := t) hx
  refine R5 ?_
  refine A4 rfl (C7 rfl U5 a7 (A0 rfl) (A0 rfl) hx qz3) ?_
  refine R2 ?_
  intro b9
  refine R9 ?_
  refine A6 (A0 rfl) ?_ ?_
  ·intro h20
   have k20 := of_decide_eq_true h20; try simp only [A5] at k20
   have hve : verAt (c.Vers.take (i + 1)) t = some x := by rw [hvs, if_pos k20]
   refine R12 ?_
   refine E9 i (i + 1) ?_ ?_ (E0 1 (by first | (rw [hve]; rfl) | (rw [hve])) ⟨congrArg (fun z : Bool => some (AV.bool z)) (by rw [hve]; try rfl), rfl, rfl, rfl, rfl, rfl, rfl, rfl, trivial⟩)
   ·omega
   omega
  intro h20
  have k20 := of_decide_eq_false h20; try simp only [A5] at k20
  have hve : verAt (c.Vers.take (i + 1)) t = verAt (c.Vers.take i) t := by rw [hvs, if_neg k20]
  refine R5 ?_
  refine E9 i (i + 1) ?_ ?_ (E0 1 (by first | (rw [hve]; rfl) | (rw [hve])) ⟨congrArg (fun z : Bool => some (AV.bool z)) (by rw [hve]; try rfl), rfl, rfl, rfl, rfl, rfl, rfl, rfl, trivial⟩)
  ·omega
  omega
 intro h14
 have k14 := of_decide_eq_false h14; try simp only [A5] at k14
 have hge : c.Vers.length ≤ i := by omega
 rw [List.take_of_length_le hge]
 refine R9 ?_
 exact U2 rfl D3 (B8 (H1 (ys := _) 1 rfl rfl Tryz.isAgg255 a7 rfl) (B8 (A8 rfl (by first | rfl | exact congrArg AV.bool (by rw [List.take_of_length_le hge]))) G6))
theorem Az3 (l : List C5) (k : Str) (t : Int) (hs : sizeL C5.size l ≤ 4194304) : B9 Tryz.prog 203 [AV.list 2 (l.map C5.cs), AV.str k, AV.int t] (AV.tup [AV.str (cellAt l k t).1, AV.bool (cellAt l k t).2]) := by
 have hl : l.length ≤ 4194304 := Nat.le_trans L3 hs
 refine B7 Tryz.func203 rfl Tryz.ntmps203 rfl ?_
 refine R2 ?_
 refine A4 rfl (D6 rfl (L5 (l := []) rfl)) ?_
 refine R6 ?_
 refine A4 rfl (B2 rfl Tryz.call216 rfl (Aq7 _ _) (A1 (A0 rfl) (A1 (A0 rfl) A7))) ?_
 refine R8 ?_
 refine A6 (A0 rfl) ?_ ?_
 ·intro h15
  have k15 := of_decide_eq_true h15; try simp only [A5] at k15
  have he : cellAt l k t = ([], false) := Bo0 (BO5 k15)
  rw [he]
  refine R2 ?_
  refine A4 rfl (D6 rfl (L5 (l := []) rfl)) ?_
  refine R3 ?_
  exact U2 rfl D3 (B8 (A8 rfl B0) (B8 (A8 rfl B0) G6))
 intro h15
 have k15 := of_decide_eq_false h15; try simp only [A5] at k15
 obtain ⟨p, c, hp, hc, hf⟩ := BO6 k15
 rw [hp]
 have hcl := (AX3 (Nat.le_trans (W4 hc) hs)).2.1
 have he := (Bo1 (t := t) hf).trans (BZ5 c t)
 rw [he]
 refine R5 ?_
 refine A4 rfl (C7 rfl H5 P2 (A0 rfl) (A0 rfl) hc qz3) ?_
 refine R2 ?_
 refine A4 rfl (B2 rfl Tryz.call217 rfl (CC8 _ _ Y0) (A1 (A0 rfl) (A1 (A0 rfl) A7))) ?_
 refine R4 ?_
 intro b9
 refine R17 ?_
 exact U2 rfl D3 (B8 (A8 rfl B0) (B8 (A8 rfl B0) G6))
end Go.Proofs.YtcfkbhnpfjjmjaaGreat
namespace Go.Proofs.YtcfkbhnpfjjmjaaGreat
open Go Go.AV Go.M
attribute [local irreducible] OpW OpA OpS AWP B9 J2 C9 OpE RetOk H0 I6 Le Ev F1 J8 Int.tmod IntKind.wrap bandI
end Go.Proofs.YtcfkbhnpfjjmjaaGreat
namespace Go.M
open Go.AV
end Go.M
namespace Go.Proofs.YtcfkbhnpfjjmjaaGreat
open Go Go.AV Go.M
attribute [local irreducible] OpW OpA OpS AWP B9 J2 C9 OpE RetOk H0 I6 Le Ev F1 J8 V9 Int.tmod Int.tdiv IntKind.wrap bandI
theorem Am5 (a b : List Int) : B9 Tryz.prog 9 [ints a, ints b] (AV.bool (decide (a = b))) := by
 refine B7 Tryz.func9 rfl Tryz.ntmps9 rfl ?_
 refine S1 (t := 0) rfl fun hl => ?_
 try simp only [A5] at hl
 refine R13 ?_
 refine A6 (A0 rfl) ?_ ?_
 ·intro h10
  have k10 := w8 h10; try simp only [A5] at k10
  have hab : a ≠ b := by intro hc; subst hc; exact k10 rfl
  refine R5 ?_
  exact D4 rfl (A8 rfl (by exact congrArg AV.bool (by simp [hab])))
 intro h10
 have k10 := c3 h10; try simp only [A5] at k10
 have heq : a.length = b.length := by omega
 refine R9 ?_
 refine E2 [(0, _), (1, _), (12, _)] _ (fun (i : Nat) => i ≤ a.length ∧ a.take i = b.take i) (fun (i : Nat) => []) (fun (i : Nat) => [(13, AV.int i)]) (fun (i : Nat) => a.length - i) (0) ?_ (E7 ⟨rfl, rfl, rfl, rfl, trivial⟩) ?_
 ·exact ⟨Nat.zero_le _, rfl⟩
 intro i hinv
 refine R5 ?_
 refine A6 (A0 rfl) ?_ ?_
 ·intro h14
  have k14 := of_decide_eq_true h14; try simp only [A5] at k14
  have hlt : i < a.length := by omega
  obtain ⟨x, hx⟩ := get_some hlt
  obtain ⟨y, hy⟩ := get_some (show i < b.length by omega)
  refine R12 ?_
  refine C3 rfl rfl (C7 rfl B4 B6 (A0 rfl) (A0 rfl) hx qz3) ?_
  refine R3 ?_
  refine C3 rfl rfl (C7 rfl B4 B6 (A0 rfl) (A0 rfl) hy qz3) ?_
  refine R3 ?_
  refine A6 (A0 rfl) ?_ ?_
  ·intro h24
   have k24 := w8 h24; try simp only [A5] at k24
   have hab : a ≠ b := by intro hc; subst hc; rw [hx] at hy; injection hy with hy; subst hy; simp at h24
   refine R5 ?_
   exact D4 rfl (A8 rfl (by exact congrArg AV.bool (by simp [hab])))
  intro h24
  have k24 := c3 h24; try simp only [A5] at k24
  refine R5 ?_
  refine E9 i (i + 1) ?_ ?_ (E7 ⟨rfl, rfl, rfl, rfl, trivial⟩)
  ·exact ⟨by omega, Bf5 hinv.2 hx (by rw [hy]; congr 1; simp_all)⟩
  omega
 intro h14
 have k14 := of_decide_eq_false h14; try simp only [A5] at k14
 have hge : a.length ≤ i := by omega
 have hab : a = b := Bx7 heq hinv.2 hge
 refine R6 ?_
 exact D4 rfl (A8 rfl (by exact congrArg AV.bool (by simp [hab])))
end Go.Proofs.YtcfkbhnpfjjmjaaGreat
namespace Go.M
open Go.AV
def W5 (a b : Int) : Int := if b < a then a else b
def Al4 (s : G2) (n : Int) : Int × Bool := if (goodState s && isTrue n) = true then (if W5 s.Floor n + 1 ≤ 100000 then (W5 s.Floor n + 1, true) else (0, false)) else (0, false)
theorem BJ1 {n : Int} : isTrue n = true ↔ 0 ≤ n ∧ n ≤ 100000 := by unfold isTrue within; simp only [Bool.and_eq_true, decide_eq_true_eq]
end Go.M
namespace Go.Proofs.YtcfkbhnpfjjmjaaGreat
open Go Go.AV Go.M
attribute [local irreducible] OpW OpA OpS AWP B9 J2 C9 OpE RetOk H0 I6 Le Ev F1 J8 V9 Int.tmod Int.tdiv IntKind.wrap bandI
theorem Aw6 (s : G2) (n : Int) (hs : s.size ≤ 400000) : B9 Tryz.prog 249 [AV.agg s.cs, AV.int n] (AV.tup [AV.int (Al4 s n).1, AV.bool (Al4 s n).2]) := by
 refine B7 Tryz.func249 rfl Tryz.ntmps249 rfl ?_
 refine R3 ?_
 intro b2
 refine R7 ?_
 refine A4 rfl (B2 rfl Tryz.call253 rfl (BI0 s qz8) (A1 (A0 rfl) A7)) ?_
 refine R3 ?_
 refine U1 rfl (fun hc => B2 rfl Tryz.call67 rfl (Ac8 _) (A1 (B1 rfl hc) A7)) ?_
 refine R6 ?_
 refine U1 rfl (fun hc => B2 rfl Tryz.call23 rfl (Z9 _ _) (A1 (B1 rfl hc) (A1 (B1 rfl hc) A7))) ?_
 refine R3 ?_
 refine A6 (A0 rfl) ?_ ?_
 ·intro h20
  have he : Al4 s n = (0, false) := by (unfold Al4 W5; cases h1 : goodState s <;> cases h2 : M.isTrue n <;> simp_all)
  rw [he]
  refine R6 ?_
  exact U2 rfl D3 (B8 (A8 rfl B0) (B8 (A8 rfl B0) G6))
 intro h20
 have hg : goodState s = true ∧ M.isTrue n = true := by (cases h1 : goodState s <;> cases h2 : M.isTrue n <;> simp_all)
 have hn := BJ1.1 hg.2
 have hfl := (AB0.1 hg.1).floor
 have hml : 0 ≤ W5 s.Floor n ∧ W5 s.Floor n ≤ 100000 := by (unfold W5; split <;> omega)
 have hne : W5 s.Floor n ≠ 100000 := fun hc9 => by (rw [hg.1, hg.2, show (if n < s.Floor then s.Floor else n) = (100000 : Int) from hc9] at h20; simp at h20)
 have he : Al4 s n = (W5 s.Floor n + 1, true) := by (unfold Al4; rw [if_pos (by rw [hg.1, hg.2]; rfl), if_pos qz8])
 rw [he]
 refine R6 ?_
 refine A4 rfl (B2 rfl Tryz.call23 rfl (Z9 _ _) (A1 (A0 rfl) (A1 (A0 rfl) A7))) ?_
 refine A4 rfl (Ad3 rfl (A0 rfl) D8 (by show _ ≤ W5 s.Floor n + 1 ∧ W5 s.Floor n + 1 ≤ _; omega)) ?_
 refine R4 ?_
 exact U2 rfl D3 (B8 (A8 rfl B0) (B8 (A8 rfl B0) G6))
end Go.Proofs.YtcfkbhnpfjjmjaaGreat
namespace Go.AV
end Go.AV
namespace Go.M
open Go.AV
def goodClock (c : V6) : Bool := within c.Off (-5) 5
def e8 (c : V6) (now : Int) : AN5 := ⟨now + c.Off - 5, now + c.Off + 5⟩
theorem Bb1 {c : V6} : goodClock c = true ↔ -5 ≤ c.Off ∧ c.Off ≤ 5 := by unfold goodClock within; simp only [Bool.and_eq_true, decide_eq_true_eq]
def maxAll (m : Int) (l : List Int) : Int := l.foldl W5 m
end Go.M
namespace Go.Proofs.YtcfkbhnpfjjmjaaGreat
open Go Go.AV Go.M
attribute [local irreducible] OpW OpA OpS AWP B9 J2 C9 OpE RetOk H0 I6 Le Ev F1 J8 V9 Int.tmod Int.tdiv IntKind.wrap bandI
theorem CK3 (c : V6) (now : Int) (hc : goodClock c = true) (hn : isTrue now = true) : B9 Tryz.prog 191 [AV.agg c.cs, AV.int now] (AV.agg (e8 c now).cs) := by
  have h1 := Bb1.1 hc
  have h2 := BJ1.1 hn
  refine B7 Tryz.func191 rfl Tryz.ntmps191 rfl ?_
  refine R3 ?_
  intro b2
  refine R1 ?_
  intro b4
  refine R17 ?_
  exact D4 rfl (H1 (ys := _) 0 rfl rfl Tryz.isAgg218 Tryz.sizeOf218 rfl)
end Go.Proofs.YtcfkbhnpfjjmjaaGreat
namespace Go.M
open Go.AV
theorem Az4 {m : Int} {l : List Int} {i : Nat} {x : Int} (h : l[i]? = some x) : maxAll m (l.take (i + 1)) = W5 (maxAll m (l.take i)) x := by
  unfold maxAll
  rw [List.take_add_one, h, List.foldl_append]; rfl
end Go.M
namespace Go.Proofs.YtcfkbhnpfjjmjaaGreat
open Go Go.AV Go.M
attribute [local irreducible] OpW OpA OpS AWP B9 J2 C9 OpE RetOk H0 I6 Le Ev F1 J8 V9 Int.tmod Int.tdiv IntKind.wrap bandI
theorem BQ1 (l : List Int) (s : AN5) (hs : s.High ≤ 1000000 ∧ -1000000 ≤ s.High) : B9 Tryz.prog 243 [ints l, AV.agg s.cs] (AV.int (maxAll (s.High + 1) l)) := by
 refine B7 Tryz.func243 rfl Tryz.ntmps243 rfl ?_
 refine S1 (t := 0) rfl fun hl => ?_
 try simp only [A5] at hl
 refine R3 ?_
 intro b3
 refine R17 ?_
 refine J0 [(4, _), (11, _), (12, _)] _ (fun (i : Nat) (m : Int) => i ≤ l.length ∧ m = maxAll (s.High + 1) (l.take i)) (fun (i : Nat) (m : Int) => []) (fun (i : Nat) (m : Int) => [(5, AV.int m), (13, AV.int i)]) (fun (i : Nat) (m : Int) => l.length - i) (0) (s.High + 1) ?_ (E7 ⟨rfl, rfl, rfl, rfl, rfl, trivial⟩) ?_
 ·exact ⟨Nat.zero_le _, rfl⟩
 intro i m hinv
 refine R5 ?_
 refine A6 (A0 rfl) ?_ ?_
 ·intro h14
  have k14 := of_decide_eq_true h14; try simp only [A5] at k14
  have hlt : i < l.length := by omega
  obtain ⟨x, hx⟩ := get_some hlt
  refine R5 ?_
  refine A4 rfl (C7 rfl B4 B6 (A0 rfl) (A0 rfl) hx qz3) ?_
  refine R6 ?_
  refine A4 rfl (B2 rfl Tryz.call23 rfl (Z9 _ _) (A1 (A0 rfl) (A1 (A0 rfl) A7))) ?_
  refine R6 ?_
  refine G4 i m (i + 1) (W5 m x) ?_ ?_ (E7 ⟨rfl, rfl, rfl, rfl, rfl, trivial⟩)
  ·exact ⟨by omega, by rw [Az4 hx, hinv.2]⟩
  omega
 intro h14
 have k14 := of_decide_eq_false h14; try simp only [A5] at k14
 have hge : l.length ≤ i := by omega
 rw [show m = maxAll (s.High + 1) l from by rw [hinv.2, List.take_of_length_le hge]]
 refine R7 ?_
 exact D4 rfl (A8 rfl B0)
theorem Bb2 (s : G2) (x : AN5) (hs : s.Floor ≤ 1000000 ∧ -1000000 ≤ s.Floor) (hx : x.High ≤ 1000000 ∧ -1000000 ≤ x.High) : B9 Tryz.prog 179 [AV.agg s.cs, AV.agg x.cs] (AV.int (W5 1 (W5 (s.Floor + 1) (x.High + 10)))) := by
  refine B7 Tryz.func179 rfl Tryz.ntmps179 rfl ?_
  refine R3 ?_
  intro b2
  refine R1 ?_
  intro b3
  refine R10 ?_
  refine A4 rfl (B2 rfl Tryz.call23 rfl (Z9 _ _) (A1 (A0 rfl) (A1 (A0 rfl) A7))) ?_
  refine A4 rfl (B2 rfl Tryz.call23 rfl (Z9 _ _) (A1 D8 (A1 (A0 rfl) A7))) ?_
  refine R3 ?_
  exact D4 rfl (A8 rfl B0)
end Go.Proofs.YtcfkbhnpfjjmjaaGreat
namespace Go.M
open Go.AV
theorem CK4 {l : List J1} {i : Nat} {e : J1} (h : l[i]? = some e) : r8 (l.take (i + 1)) = r8 (l.take i) ++ [e.Rec] := by
  unfold r8; rw [List.take_add_one, h, List.map_append]; rfl
theorem BX1 {l : List E6} {i : Nat} {r b : E6} (h : l[i]? = some r) : (l.take (i + 1)).foldl (fun b r => if b.Sure < r.Sure then r else b) b = (if ((l.take i).foldl (fun b r => if b.Sure < r.Sure then r else b) b).Sure < r.Sure then r else (l.take i).foldl (fun b r => if b.Sure < r.Sure then r else b) b) := by
  rw [List.take_add_one, h, List.foldl_append]; rfl
structure LogK (l : List J1) : Prop where
  len : l.length ≤ 60
  recs : ∀ e ∈ l, e.Rec.size ≤ 1100
theorem BQ2 {r : E6} {t : Int} (h : GR r t) : LogK r.Log := ⟨h.len, fun e he => Nat.le_trans (AI3 (h.ents e he).2.2) D3⟩
end Go.M
namespace Go.Proofs.YtcfkbhnpfjjmjaaGreat
open Go Go.AV Go.M
attribute [local irreducible] OpW OpA OpS AWP B9 J2 C9 OpE RetOk H0 I6 Le Ev F1 J8 V9 Int.tmod Int.tdiv IntKind.wrap bandI
theorem AT0 (l : List J1) (m : Int) (hm : 0 ≤ m ∧ m ≤ l.length) (hk : LogK l) : B9 Tryz.prog 168 [AV.list 8 (l.map J1.cs), AV.int m] (AV.agg (At3 l m.toNat).cs) := by
 obtain ⟨n, rfl⟩ : ∃ n : Nat, m = (n : Int) := ⟨m.toNat, by omega⟩
 have hnl : n ≤ l.length := by omega
 have hl6 := hk.len
 refine B7 Tryz.func168 rfl Tryz.ntmps168 rfl ?_
 refine R3 ?_
 intro b4
 refine R3 ?_
 refine P1 221 7 rfl rfl rfl rfl G8 ?_
 intro v5
 refine R6 ?_
 refine A4 rfl (i6 rfl M8 T5 (A0 rfl) (A0 rfl) qz8 (by (try simp only [A5]); omega)) ?_
 refine R4 ?_
 refine J0 [(4, _), (12, _), (13, _)] _ (fun (i : Nat) (v : Value) => i ≤ n) (fun (i : Nat) (v : Value) => [.arr v 221 7 ((r8 (l.take i)).map L1.cs)]) (fun (i : Nat) (v : Value) => [(5, AV.is v), (14, AV.int i)]) (fun (i : Nat) (v : Value) => n - i) (0) (v5) ?_ (H7 B0 ⟨rfl, rfl, rfl, rfl, rfl, trivial⟩) ?_
 ·exact Nat.zero_le _
 intro i v hinv
 refine R5 ?_
 refine A6 (A0 rfl) ?_ ?_
 ·intro h15
  have k15 := of_decide_eq_true h15; try simp only [A5] at k15
  have hlt : i < n := (by simp only [A5, G9] at k15; omega)
  obtain ⟨x, hx⟩ := get_some (show i < l.length by omega)
  have hx2 : (l.take ((n : Int)).toNat)[i]? = some x := (by rw [Int.toNat_natCast, List.getElem?_take_of_lt hlt]; exact hx)
  have hrl : (r8 (l.take i)).length ≤ 60 := (by unfold r8; rw [A5, G9]; omega)
  refine R5 ?_
  refine A4 rfl (C7 rfl M8 T5 (A0 rfl) (A0 rfl) hx2 qz3) ?_
  refine R2 ?_
  intro b7
  refine R5 ?_
  refine A4 rfl (w_loadAP _ 0 rfl (A0 rfl) rfl Tryz.isAgg221 Tryz.sizeOf221 rfl rfl) ?_
  refine R1 ?_
  refine F6 (by' := 88) 1 rfl rfl rfl rfl Tryz.underlying224 Tryz.type221 rfl rfl rfl rfl rfl rfl (A0 rfl) (A0 rfl) rfl BD8 ?_
  intro v22_1
  refine R6 ?_
  refine G4 i v (i + 1) (v22_1) ?_ ?_ (Le.trans (C1 [0, 0] rfl) (E0 1 (by (rw [CK4 hx, List.map_append]; rfl)) ⟨rfl, rfl, rfl, rfl, rfl, trivial⟩))
  ·exact qz8
  omega
 intro h15
 have k15 := of_decide_eq_false h15; try simp only [A5] at k15
 have hge : i = n := (by simp only [A5, G9] at k15; omega)
 subst hge
 have hrl : (r8 (l.take i)).length ≤ 60 := (by unfold r8; rw [A5, G9]; omega)
 have hrs : ∀ r ∈ r8 (l.take i), r.size ≤ 1100 := fun r hr => (by obtain ⟨e, he, rfl⟩ := List.mem_map.1 hr; exact hk.recs e (List.mem_of_mem_take he))
 refine R4 ?_
 refine AT6 (g6 [0] 25 rfl rfl (J5 (C4 (i := 0) rfl) F4) AZ3) ?_
 refine A4 rfl (B2 rfl Tryz.call187 rfl (ofF_spec (r8 (l.take i)) hrl hrs) (A1 (A0 rfl) A7)) ?_
 refine R4 ?_
 intro b8
 refine R9 ?_
 exact D4 rfl (H1 (ys := _) 1 rfl rfl T8 O7 rfl)
theorem i7 (g : TGroup) (gg : GG g) : B9 Tryz.prog 200 [AV.agg g.cs] (AV.bool (o6 g)) := by
 refine B7 Tryz.func200 rfl Tryz.ntmps200 rfl ?_
 refine R3 ?_
 intro b1
 refine R9 ?_
 refine A6 (A0 rfl) ?_ ?_
 ·intro h8
  have k8 := of_decide_eq_true h8; try simp only [A5] at k8
  have he : o6 g = false := (by unfold o6; rw [decide_eq_false qz8]; rfl)
  rw [he]
  refine R5 ?_
  exact D4 rfl (A8 rfl B0)
 intro h8
 have k8 := of_decide_eq_false h8; try simp only [A5] at k8
 have hl0 : 0 ≤ g.Lead := qz8
 have hin := AV2 gg hl0
 obtain ⟨L, hL⟩ : ∃ L, repAt g g.Lead = L := ⟨_, rfl⟩
 have hxl := Z5 hin
 have hgr := gg.reps _ (d9 hin)
 rw [hL] at hxl hgr
 have hsr := hgr.sure
 have hl6 := hgr.len
 obtain ⟨n, hn⟩ : ∃ n : Nat, L.Sure = (n : Int) := ⟨L.Sure.toNat, by omega⟩
 have he : o6 g = (L.Log.take n).any (fun e => e.Term == g.Term) := (by unfold o6; rw [decide_eq_true hl0, hL, hn]; rfl)
 rw [he]
 refine R7 ?_
 refine A4 rfl (C7 rfl F3 I5 (A0 rfl) (A0 rfl) hxl qz8) ?_
 refine R2 ?_
 intro b3
 refine R4 ?_
 rw [show L.cs = [AV.bool L.Up, AV.list 8 (L.Log.map J1.cs), AV.int (n : Int)] by rw [← hn]; rfl]
 refine R5 ?_
 refine A4 rfl (i6 rfl M8 T5 (A0 rfl) (A0 rfl) qz8 (by (try simp only [A5]); omega)) ?_
 refine R4 ?_
 refine E2 [(1, _), (19, _), (20, _)] _ (fun (i : Nat) => i ≤ (L.Log.take n).length ∧ ((L.Log.take n).any fun e => e.Term == g.Term) = (((L.Log.take n).drop i).any fun e => e.Term == g.Term)) (fun (i : Nat) => []) (fun (i : Nat) => [(21, AV.int i)]) (fun (i : Nat) => (L.Log.take n).length - i) (0) ?_ (E7 ⟨rfl, rfl, rfl, rfl, trivial⟩) ?_
 ·exact ⟨Nat.zero_le _, rfl⟩
 intro i hinv
 refine R5 ?_
 refine A6 (A0 rfl) ?_ ?_
 ·intro h22
  have k22 := of_decide_eq_true h22; try simp only [A5] at k22
  have hlt : i < (L.Log.take n).length := Af1
  have h9 : (L.Log.take n).length ≤ L.Log.length := At7
  obtain ⟨x, hx⟩ := get_some hlt
  refine R5 ?_
  refine A4 rfl (C7 rfl M8 T5 (A0 rfl) (A0 rfl) hx qz3) ?_
  refine R2 ?_
  intro b5
  refine R10 ?_
  refine A6 (A0 rfl) ?_ ?_
  ·intro h29
   have k29 := D1 h29; try simp only [A5] at k29
   rw [hinv.2, drop_some hx, List.any_cons, h29]
   refine R5 ?_
   exact D4 rfl (A8 rfl B0)
  intro h29
  have k29 := D5 h29; try simp only [A5] at k29
  refine R5 ?_
  refine E9 i (i + 1) ?_ ?_ (O4 1 ⟨rfl, rfl, rfl, rfl, trivial⟩)
  ·exact ⟨by omega, by rw [hinv.2, drop_some hx, List.any_cons, h29]; rfl⟩
  omega
 intro h22
 have k22 := of_decide_eq_false h22; try simp only [A5] at k22
 have hge : (L.Log.take n).length ≤ i := Af1
 rw [hinv.2, List.drop_eq_nil_of_le hge]
 refine R6 ?_
 exact D4 rfl (A8 rfl B0)
theorem As0 (g : TGroup) (gg : GG g) : B9 Tryz.prog 146 [AV.agg g.cs] (AV.agg (AH8 g).cs) := by
 have h0l : 0 < g.Reps.length ∧ g.Reps.length ≤ 5 := by have := gg.many; omega
 refine B7 Tryz.func146 rfl Tryz.ntmps146 rfl ?_
 refine R3 ?_
 intro b1
 refine R1 ?_
 intro b2
 refine R14 ?_
 refine J0 [(1, _), (2, _), (7, _), (8, _)] _ (fun (i : Nat) (p : Nat) => i ≤ g.Reps.length ∧ g.Reps[p]? = some ((g.Reps.take i).foldl (fun b r => if b.Sure < r.Sure then r else b) (repAt g 0))) (fun (i : Nat) (p : Nat) => []) (fun (i : Nat) (p : Nat) => [(3, AV.int p), (9, AV.int i)]) (fun (i : Nat) (p : Nat) => g.Reps.length - i) (0) (0) ?_ (E7 ⟨rfl, rfl, rfl, rfl, rfl, rfl, trivial⟩) ?_
 ·exact ⟨Nat.zero_le _, Z5 (g := g) (r := 0) ⟨Int.le_refl _, by omega⟩⟩
 intro i p hinv
 refine R5 ?_
 refine A6 (A0 rfl) ?_ ?_
 ·intro h10
  have k10 := of_decide_eq_true h10; try simp only [A5] at k10
  have hlt : i < g.Reps.length := AC5
  obtain ⟨x, hx⟩ := get_some hlt
  refine R6 ?_
  refine A4 rfl (C7 rfl F3 I5 (A0 rfl) (A0 rfl) hx qz3) ?_
  refine R2 ?_
  intro b5
  refine R10 ?_
  refine C3 rfl rfl (C7 rfl F3 I5 (A0 rfl) (A0 rfl) hinv.2 qz3) ?_
  refine R4 ?_
  refine A6 (A0 rfl) ?_ ?_
  ·intro h22
   have k22 := of_decide_eq_true h22; try simp only [A5] at k22
   refine R8 ?_
   refine G4 i p (i + 1) (i) ?_ ?_ (O4 1 ⟨rfl, rfl, rfl, rfl, rfl, rfl, trivial⟩)
   ·exact ⟨by omega, by rw [BX1 hx, if_pos k22]; exact hx⟩
   omega
  intro h22
  have k22 := of_decide_eq_false h22; try simp only [A5] at k22
  refine R5 ?_
  refine G4 i p (i + 1) (p) ?_ ?_ (O4 1 ⟨rfl, rfl, rfl, rfl, rfl, rfl, trivial⟩)
  ·exact ⟨by omega, by rw [BX1 hx, if_neg k22]; exact hinv.2⟩
  omega
 intro h10
 have k10 := of_decide_eq_false h10; try simp only [A5] at k10
 have hge : g.Reps.length ≤ i := AC5
 have hb : g.Reps[p]? = some (AP8 g) := (by have h9 := hinv.2; rw [List.take_of_length_le hge] at h9; exact h9)
 have hgr := gg.reps _ (Bu9 gg)
 refine R2 ?_
 refine L8 13 F2 F2 rfl ?_
 refine R3 ?_
 refine C3 rfl rfl (C7 rfl F3 I5 (A0 rfl) (A0 rfl) hb qz3) ?_
 refine R5 ?_
 refine C3 rfl rfl (C7 rfl F3 I5 (A0 rfl) (A0 rfl) hb qz3) ?_
 refine R2 ?_
 refine C3 rfl rfl (B2 rfl Tryz.call168 rfl (AT0 (AP8 g).Log (AP8 g).Sure hgr.sure (BQ2 hgr)) (A1 (A0 rfl) (A1 (A0 rfl) A7))) ?_
 refine R4 ?_
 exact D4 rfl (H1 (ys := _) 0 rfl rfl T8 O7 rfl)
end Go.Proofs.YtcfkbhnpfjjmjaaGreat
namespace Go.M
open Go.AV
theorem Ae8 {α : Type} {l : List α} {i : Nat} {x : α} (h : l[i]? = some x) : l.set i x = l := by
  apply List.ext_getElem?
  intro j
  by_cases e : i = j
  · subst e; rw [List.getElem?_set_self (List.getElem?_eq_some_iff.1 h).1, h]
  · rw [List.getElem?_set_ne e]
end Go.M
namespace Go.Proofs.YtcfkbhnpfjjmjaaGreat
open Go Go.AV Go.M
attribute [local irreducible] OpW OpA OpS AWP B9 J2 C9 OpE RetOk H0 I6 Le Ev F1 J8 V9 Int.tmod Int.tdiv IntKind.wrap bandI
def A3.ocs (t : A3) (y : Value × Value) : List AV := [AV.list 4 (t.Ops.map TOp.cs), AV.is y.1, AV.is y.2, AV.int t.Begin, AV.int t.End, AV.bool t.Yes, AV.int t.Time, AV.bool t.Dead, AV.bool t.Put, AV.bool t.Stopped]
def A3.ow (t : A3) (y : Value × Value) : List Go.AV.Own := [.arr y.1 45 3 (t.Got.map G5.cs), .arr y.2 3 1 (t.Terms.map fun n => [AV.int n])]
def A2.ocs (l : A2) (y : Value) : List AV := [AV.int l.Node, strs l.Keys, AV.is y, AV.int l.Time, AV.int l.Begin, AV.int l.End]
def A2.ow (l : A2) (y : Value) : List Go.AV.Own := [.arr y 45 3 (l.Got.map G5.cs)]
theorem A3.lcM {own : List Go.AV.Own} (t : A3) (y : Value × Value) (h : ∀ o ∈ A3.ow t y, o ∈ own) : X9 own (A3.ocs t y) t.cs := D0 H2 (D0 (J5 (h _ (C4 (i := 0) rfl)) F4) (D0 (J5 (h _ (C4 (i := 1) rfl)) F4) i3))
theorem A2.lcM {own : List Go.AV.Own} (l : A2) (y : Value) (h : ∀ o ∈ A2.ow l y, o ∈ own) : X9 own (A2.ocs l y) l.cs := D0 H2 (D0 H2 (D0 (J5 (h _ (C4 (i := 0) rfl)) F4) i3))
structure WX where
  cl : Value
  gr : Value
  lo : Value
  pr : Value
  tx : Value
  lk : Value
def WB (b : Nat) (w : TWorld) (X : WX) (T : List (Value × Value)) (L : List Value) : List Go.AV.Own :=
  .box b 199 [AV.int w.Now, AV.int w.Count, AV.is X.cl, strs w.Cuts, AV.is X.gr, AV.is X.lo, AV.is X.pr, AV.is X.tx, AV.is X.lk] ::
  .arr X.cl 234 1 (w.Clocks.map V6.cs) :: .arr X.gr 178 3 (w.Groups.map TGroup.cs) :: .arr X.lo 203 1 (w.Locks.map fun l => [AV.list 3 (l.map H8.cs)]) ::
  .arr X.pr 3 1 (w.Promised.map fun n => [AV.int n]) :: .arr X.tx 143 10 (nrows A3.ocs w.Txns T) :: .arr X.lk 152 6 (nrows A2.ocs w.Looks L) ::
  (nin A3.ow w.Txns T ++ nin A2.ow w.Looks L)
theorem AK9 (b : Nat) (w : TWorld) (X : WX) (T : List (Value × Value)) (L : List Value) (g : Int) (gi : TGroup) (hx : w.Groups[g.toNat]? = some gi) (h0 : 0 ≤ g) (gg : GG gi) (hl : 0 ≤ gi.Lead) : C9 Tryz.prog 202 [AV.ptr b 0, AV.int g] (WB b w X T L) (fun _ : Unit => True) (fun _ => WB b w X T L) (fun _ => AV.agg (leadSure gi).cs) := by
 have hin := AV2 gg hl
 have hgr := gg.reps _ (d9 hin)
 have hgl := (List.getElem?_eq_some_iff.1 hx).1
 refine C6 Tryz.func202 rfl Tryz.ntmps202 rfl ?_
 refine R3 ?_
 intro b4
 refine R2 ?_
 refine Q8 _ 21 (.pure 0 (.pure 1 (.pure 2 (.pure 3 (.pure 4 (.pure 5 (.pure 6 (.pure 7 (.pure 8 (.pure 9 (.pure 10 (.pure 11 (.pure 12 (.pure 13 (.pure 14 (.pure 15 (.pure 16 (.pure 17 (.pure 18 (.pure 19 (.e1 20 .nil))))))))))))))))))))) F2 F2 rfl (O2 8) ?_
 refine R6 ?_
 refine K4 rfl rfl rfl (fun ext => E8 3 rfl G7 C8 (A0 rfl) rfl (A0 rfl) qz8 f6) ?_
 refine K4 rfl rfl rfl (fun ext => I9 3 rfl Q2 rfl p7 (A0 rfl) rfl rfl qz6) ?_
 refine K4 rfl rfl rfl (fun ext => K1 3 rfl (A0 rfl) rfl Tryz.isAgg176 qz6 rfl) ?_
 refine R6 ?_
 refine K4 rfl rfl rfl (fun ext => E8 3 rfl G7 C8 (A0 rfl) rfl (A0 rfl) qz8 f6) ?_
 refine K4 rfl rfl rfl (fun ext => I9 3 rfl Q2 rfl B6 (A0 rfl) rfl rfl qz6) ?_
 refine K4 rfl rfl rfl (fun ext => K1 3 rfl (A0 rfl) rfl I7 qz6 rfl) ?_
 refine K4 rfl rfl rfl (fun ext => C7 rfl F3 I5 (A0 rfl) (A0 rfl) (Z5 hin) qz8) ?_
 refine R2 ?_
 refine F7 rfl rfl rfl (Y2 8 <| T2 rfl Tryz.zeroValue207 rfl) (fun a _ => qz4) ?_
 intro b5 _
 refine R9 ?_
 refine A4 rfl (B2 rfl Tryz.call168 rfl (AT0 (repAt gi gi.Lead).Log (repAt gi gi.Lead).Sure hgr.sure (BQ2 hgr)) (A1 (A0 rfl) (A1 (A0 rfl) A7))) ?_
 refine R3 ?_
 exact H3 [1, 1, 1, 1, 1, 1, 1] 2 (nin A3.ow w.Txns T ++ nin A2.ow w.Looks L) [] () (trivial) rfl (show List.Perm (nin A3.ow w.Txns T ++ nin A2.ow w.Looks L) ((nin A3.ow w.Txns T ++ nin A2.ow w.Looks L) ++ []) from B5) B0 (E4 rfl (H1 (ys := _) 0 rfl rfl T8 O7 rfl))
theorem y7 (b : Nat) (w : TWorld) (X : WX) (T : List (Value × Value)) (L : List Value) (g : Int) (gi : TGroup) (hx : w.Groups[g.toNat]? = some gi) (h0 : 0 ≤ g) (gg : GG gi) (hl : 0 ≤ gi.Lead) : C9 Tryz.prog 180 [AV.ptr b 0, AV.int g] (WB b w X T L) (fun _ : Unit => True) (fun _ => WB b w X T L) (fun _ => AV.agg (leadFull gi).cs) := by
 have hin := AV2 gg hl
 have hgr := gg.reps _ (d9 hin)
 have hgl := (List.getElem?_eq_some_iff.1 hx).1
 have hf : B9 Tryz.prog 168 [AV.list 8 ((repAt gi gi.Lead).Log.map J1.cs), AV.int ((((repAt gi gi.Lead).Log.map J1.cs).length : Nat) : Int)] (AV.agg (leadFull gi).cs) := by rw [A5]; exact AT0 _ _ ⟨by omega, by omega⟩ (BQ2 hgr)
 refine C6 Tryz.func180 rfl Tryz.ntmps180 rfl ?_
 refine R3 ?_
 intro b4
 refine R2 ?_
 refine Q8 _ 21 (.pure 0 (.pure 1 (.pure 2 (.pure 3 (.pure 4 (.pure 5 (.pure 6 (.pure 7 (.pure 8 (.pure 9 (.pure 10 (.pure 11 (.pure 12 (.pure 13 (.pure 14 (.pure 15 (.pure 16 (.pure 17 (.pure 18 (.pure 19 (.e1 20 .nil))))))))))))))))))))) F2 F2 rfl (O2 8) ?_
 refine R6 ?_
 refine K4 rfl rfl rfl (fun ext => E8 3 rfl G7 C8 (A0 rfl) rfl (A0 rfl) qz8 f6) ?_
 refine K4 rfl rfl rfl (fun ext => I9 3 rfl Q2 rfl p7 (A0 rfl) rfl rfl qz6) ?_
 refine K4 rfl rfl rfl (fun ext => K1 3 rfl (A0 rfl) rfl Tryz.isAgg176 qz6 rfl) ?_
 refine R6 ?_
 refine K4 rfl rfl rfl (fun ext => E8 3 rfl G7 C8 (A0 rfl) rfl (A0 rfl) qz8 f6) ?_
 refine K4 rfl rfl rfl (fun ext => I9 3 rfl Q2 rfl B6 (A0 rfl) rfl rfl qz6) ?_
 refine K4 rfl rfl rfl (fun ext => K1 3 rfl (A0 rfl) rfl I7 qz6 rfl) ?_
 refine K4 rfl rfl rfl (fun ext => C7 rfl F3 I5 (A0 rfl) (A0 rfl) (Z5 hin) qz8) ?_
 refine R2 ?_
 refine F7 rfl rfl rfl (Y2 8 <| T2 rfl Tryz.zeroValue207 rfl) (fun a _ => qz4) ?_
 intro b5 _
 refine R10 ?_
 refine A4 rfl (B2 rfl Tryz.call168 rfl (hf) (A1 (A0 rfl) (A1 (A0 rfl) A7))) ?_
 refine R3 ?_
 exact H3 [1, 1, 1, 1, 1, 1, 1] 2 (nin A3.ow w.Txns T ++ nin A2.ow w.Looks L) [] () (trivial) rfl (show List.Perm (nin A3.ow w.Txns T ++ nin A2.ow w.Looks L) ((nin A3.ow w.Txns T ++ nin A2.ow w.Looks L) ++ []) from B5) B0 (E4 rfl (H1 (ys := _) 0 rfl rfl T8 O7 rfl))
theorem Aa4 (b : Nat) (w : TWorld) (X : WX) (T : List (Value × Value)) (L : List Value) (node : Int) (c : V6) (hx : w.Clocks[node.toNat]? = some c) (h0 : 0 ≤ node) (hc : goodClock c = true) (hn : isTrue w.Now = true) : C9 Tryz.prog 181 [AV.ptr b 0, AV.int node] (WB b w X T L) (fun _ : Unit => True) (fun _ => WB b w X T L) (fun _ => AV.agg (e8 c w.Now).cs) := by
 have hcl := (List.getElem?_eq_some_iff.1 hx).1
 refine C6 Tryz.func181 rfl Tryz.ntmps181 rfl ?_
 refine R3 ?_
 intro b4
 refine R2 ?_
 refine L8 14 F2 F2 rfl ?_
 refine R6 ?_
 refine C3 rfl rfl (E8 2 rfl S4 p8 (A0 rfl) rfl (A0 rfl) qz8 f6) ?_
 refine C3 rfl rfl (W9 2 rfl (A0 rfl) rfl Tryz.isAgg234 p8 qz6 D3) ?_
 refine R5 ?_
 refine C3 rfl rfl (B2 rfl Tryz.call191 rfl (CK3 c w.Now hc hn) (A1 (A0 rfl) (A1 (A0 rfl) A7))) ?_
 refine R4 ?_
 exact H3 [1, 1, 1, 1, 1, 1, 1] 1 (nin A3.ow w.Txns T ++ nin A2.ow w.Looks L) [] () (trivial) rfl (show List.Perm (nin A3.ow w.Txns T ++ nin A2.ow w.Looks L) ((nin A3.ow w.Txns T ++ nin A2.ow w.Looks L) ++ []) from B5) B0 (E4 rfl (H1 (ys := _) 0 rfl rfl Tryz.isAgg218 Tryz.sizeOf218 rfl))
theorem AT1 (b : Nat) (w : TWorld) (X : WX) (T : List (Value × Value)) (L : List Value) (g : Int) (gi : TGroup) (c : V6) (hx : w.Groups[g.toNat]? = some gi) (h0 : 0 ≤ g ∧ g ≤ 3) (hl : 0 ≤ gi.Lead ∧ gi.Lead ≤ 5) (hcx : w.Clocks[(3 * g + gi.Lead).toNat]? = some c) (hc : goodClock c = true) (hn : isTrue w.Now = true) : C9 Tryz.prog 244 [AV.ptr b 0, AV.int g] (WB b w X T L) (fun _ : Unit => True) (fun _ => WB b w X T L) (fun _ => AV.agg (e8 c w.Now).cs) := by
  have hgl := (List.getElem?_eq_some_iff.1 hx).1
  refine C6 Tryz.func244 rfl Tryz.ntmps244 rfl ?_
  refine R3 ?_
  intro b4
  refine R5 ?_
  refine A4 rfl (AR3 rfl D8 (A0 rfl) qz3) ?_
  refine R6 ?_
  refine A4 rfl (E8 3 rfl G7 C8 (A0 rfl) rfl (A0 rfl) qz8 f6) ?_
  refine A4 rfl (I9 3 rfl Q2 rfl B6 (A0 rfl) rfl rfl qz6) ?_
  refine A4 rfl (K1 3 rfl (A0 rfl) rfl I7 qz6 rfl) ?_
  refine R1 ?_
  refine A4 rfl (X0 [1, 1, 1, 1, 1, 1, 1] 1 (nin A3.ow w.Txns T ++ nin A2.ow w.Looks L) ([]) rfl Tryz.call181 rfl rfl (B5) (Aa4 b w X T L (3 * g + gi.Lead) c hcx qz8 hc hn) (A1 (A0 rfl) (A1 (A0 rfl) A7))) ?_
  refine R3 ?_
  exact H3 [1, 1, 1, 1, 1, 1, 1] 1 (nin A3.ow w.Txns T ++ nin A2.ow w.Looks L) [] () (trivial) rfl (show List.Perm (nin A3.ow w.Txns T ++ nin A2.ow w.Looks L) ((nin A3.ow w.Txns T ++ nin A2.ow w.Looks L) ++ []) from B5) B0 (E4 rfl (H1 (ys := _) 0 rfl rfl Tryz.isAgg218 Tryz.sizeOf218 rfl))
theorem Bk9 (b : Nat) (w : TWorld) (X : WX) (T : List (Value × Value)) (L : List Value) (g t : Int) (k : Str) (write : Bool) (gi : TGroup) (hx : w.Groups[g.toNat]? = some gi) (h0 : 0 ≤ g) (gg : GG gi) (hl : 0 ≤ gi.Lead) : ∃ r : Bool, C9 Tryz.prog 245 [AV.ptr b 0, AV.int g, AV.int t, AV.str k, AV.bool write] (WB b w X T L) (fun _ : Unit => True) (fun _ => WB b w X T L) (fun _ => AV.bool r) := by
 obtain ⟨f, hf⟩ : ∃ f : E3 → Bool, f = fun h => (h.Txn != t) && (hasK h.Writes k || (write && hasS h.Reads k)) := ⟨_, rfl⟩
 refine ⟨[leadSure gi, leadFull gi].any fun s => s.Held.any f, ?_⟩
 have hsl : ∀ s ∈ [leadSure gi, leadFull gi], s.Held.length ≤ 12 := fun s hs => by
  rcases List.mem_cons.1 hs with rfl | hs
  ·exact (AI2 gg hl).hlen
  rw [List.mem_singleton.1 hs]; exact (m9 gg hl).hlen
 refine C6 Tryz.func245 rfl Tryz.ntmps245 rfl ?_
 refine R9 ?_
 refine A4 rfl (X0 [0, 0, 0, 0, 0, 0, 0] 0 (nin A3.ow w.Txns T ++ nin A2.ow w.Looks L) ([]) rfl Tryz.call202 rfl rfl (B5) (AK9 b w X T L g gi hx h0 gg hl) (A1 (A0 rfl) (A1 (A0 rfl) A7))) ?_
 refine R2 ?_
 refine A4 rfl (X0 [0, 0, 0, 0, 0, 0, 0] 0 (nin A3.ow w.Txns T ++ nin A2.ow w.Looks L) ([]) rfl Tryz.call180 rfl rfl (B5) (y7 b w X T L g gi hx h0 gg hl) (A1 (A0 rfl) (A1 (A0 rfl) A7))) ?_
 refine R5 ?_
 refine E2 [(2, _), (3, _), (4, _), (21, _), (22, _)] _ (fun (i : Nat) => i ≤ 2 ∧ ([leadSure gi, leadFull gi].any fun s => s.Held.any f) = (([leadSure gi, leadFull gi].drop i).any fun s => s.Held.any f)) (fun (i : Nat) => []) (fun (i : Nat) => [(23, AV.int i)]) (fun (i : Nat) => 2 - i) (0) ?_ (E7 ⟨rfl, rfl, rfl, rfl, rfl, rfl, trivial⟩) ?_
 ·exact ⟨Nat.zero_le _, rfl⟩
 intro i hinv
 have hinv0 := hinv
 refine R5 ?_
 refine A6 (A0 rfl) ?_ ?_
 ·intro h24
  have k24 := of_decide_eq_true h24; try simp only [A5] at k24
  have hlt : i < 2 := (by simp only [O9] at k24; omega)
  obtain ⟨s, hs⟩ := get_some (show i < [leadSure gi, leadFull gi].length from hlt)
  have hs12 := hsl s (C4 hs)
  have hs2 : ([leadSure gi, leadFull gi].map G2.cs)[i]? = some s.cs := L9 hs
  refine R5 ?_
  refine A4 rfl (t3 rfl Tryz.underlying140 O7 (A0 rfl) (A0 rfl) qz8 (by rw [Int.toNat_natCast]; exact hs2)) ?_
  refine R2 ?_
  intro b12
  refine R10 ?_
  refine E2 [(2, _), (3, _), (4, _), (12, _), (21, _), (22, _), (23, _), (24, _), (25, _), (26, _), (27, _), (28, _), (29, _)] _ (fun (j : Nat) => j ≤ s.Held.length ∧ s.Held.any f = (s.Held.drop j).any f) (fun (j : Nat) => []) (fun (j : Nat) => [(30, AV.int j)]) (fun (j : Nat) => s.Held.length - j) (0) ?_ (E7 ⟨rfl, rfl, rfl, rfl, rfl, rfl, rfl, rfl, rfl, rfl, rfl, rfl, rfl, rfl, trivial⟩) ?_
  ·exact ⟨Nat.zero_le _, rfl⟩
  intro j hinv
  have hinv1 := hinv
  refine R5 ?_
  refine A6 (A0 rfl) ?_ ?_
  ·intro h31
   have k31 := of_decide_eq_true h31; try simp only [A5] at k31
   have hlt1 : j < s.Held.length := (by simpa using h31)
   obtain ⟨y, hh⟩ := get_some hlt1
   refine R5 ?_
   refine A4 rfl (C7 rfl I8 N8 (A0 rfl) (A0 rfl) hh qz3) ?_
   refine R2 ?_
   intro b14
   refine R12 ?_
   refine L4 rfl (fun hc => B2 rfl Tryz.call50 rfl (AN1 _ _) (A1 (B1 rfl hc) (A1 (B1 rfl hc) A7))) ?_
   refine R6 ?_
   refine c7 rfl rfl (U6 rfl rfl rfl) (fun hc => B2 rfl Tryz.call250 rfl (BH8 _ _) (A1 (B1 rfl hc) (A1 (B1 rfl hc) A7))) ?_
   refine R4 ?_
   refine A6 (A0 rfl) ?_ ?_
   ·intro h52
    have hyes : ([leadSure gi, leadFull gi].any fun s => s.Held.any f) = true := List.any_eq_true.2 ⟨s, C4 hs, List.any_eq_true.2 ⟨y, C4 hh, by rw [hf]; exact h52⟩⟩
    rw [hyes]
    refine R5 ?_
    exact H3 [2, 2, 2, 2, 2, 2, 2] 2 (nin A3.ow w.Txns T ++ nin A2.ow w.Looks L) [] () (trivial) rfl (show List.Perm (nin A3.ow w.Txns T ++ nin A2.ow w.Looks L) ((nin A3.ow w.Txns T ++ nin A2.ow w.Looks L) ++ []) from B5) B0 (E4 rfl (A8 rfl B0))
   intro h52
   refine R5 ?_
   refine E9 j (j + 1) ?_ ?_ (O4 1 ⟨rfl, rfl, rfl, rfl, rfl, rfl, rfl, rfl, rfl, rfl, rfl, rfl, rfl, rfl, trivial⟩)
   ·exact ⟨by omega, by rw [hinv1.2, drop_some hh, List.any_cons, show f y = false by (rw [hf]; exact h52)]; rfl⟩
   omega
  intro h31
  have k31 := of_decide_eq_false h31; try simp only [A5] at k31
  have hge1 : s.Held.length ≤ j := (by simpa using h31)
  refine R5 ?_
  refine E9 i (i + 1) ?_ ?_ (O4 1 ⟨rfl, rfl, rfl, rfl, rfl, rfl, trivial⟩)
  ·exact ⟨by omega, by rw [hinv0.2, drop_some hs, List.any_cons, hinv1.2, List.drop_eq_nil_of_le hge1]; rfl⟩
  omega
 intro h24
 have k24 := of_decide_eq_false h24; try simp only [A5] at k24
 have hge : 2 ≤ i := (by simp only [O9] at k24; omega)
 rw [hinv.2, List.drop_eq_nil_of_le (show [leadSure gi, leadFull gi].length ≤ i from hge)]
 refine R6 ?_
 exact H3 [0, 0, 0, 0, 0, 0, 0] 0 (nin A3.ow w.Txns T ++ nin A2.ow w.Looks L) [] () (trivial) rfl (show List.Perm (nin A3.ow w.Txns T ++ nin A2.ow w.Looks L) ((nin A3.ow w.Txns T ++ nin A2.ow w.Looks L) ++ []) from B5) B0 (E4 rfl (A8 rfl B0))
theorem AF8 (b : Nat) (w : TWorld) (X : WX) (T : List (Value × Value)) (L : List Value) (g : Int) (gi : TGroup) (hx : w.Groups[g.toNat]? = some gi) (h0 : 0 ≤ g) (hg : WG gi) : C9 Tryz.prog 184 [AV.ptr b 0, AV.int g] (WB b w X T L) (fun v : TGroup => WG v) (fun v => WB b (wGroup w g.toNat v) X T L) (fun _ => AV.tup []) := by
 have hgl := (List.getElem?_eq_some_iff.1 hx).1
 refine C6 Tryz.func184 rfl Tryz.ntmps184 rfl ?_
 refine R6 ?_
 refine AWP.le (C1 [2] rfl) ?_
 refine J0 [(0, _), (1, _)] _ (fun (r : Nat) (v : TGroup) => r ≤ 3 ∧ WG v) (fun (r : Nat) (v : TGroup) => [.arr X.gr 178 3 ((w.Groups.set g.toNat v).map TGroup.cs)]) (fun (r : Nat) (v : TGroup) => [(4, AV.int r)]) (fun (r : Nat) (v : TGroup) => 3 - r) (0) (gi) ?_ (H7 (by (rw [Ae8 hx]; rfl)) ⟨rfl, rfl, rfl, trivial⟩) ?_
 ·exact ⟨Nat.zero_le _, hg⟩
 intro r v hinv
 have hvs := Ae7 hinv.2.good
 refine R6 ?_
 refine A6 (A0 rfl) ?_ ?_
 ·intro h10
  have k10 := of_decide_eq_true h10; try simp only [A5] at k10
  refine R11 ?_
  refine A4 rfl (E8 0 rfl G7 C8 (A0 rfl) rfl (A0 rfl) qz8 f7) ?_
  refine A4 rfl (W9 0 rfl (A0 rfl) rfl J9 C8 qz80 D3) ?_
  refine R1 ?_
  refine A4 rfl (B2 rfl Tryz.call194 rfl (Br0 v r qz8) (A1 (A0 rfl) (A1 (A0 rfl) A7))) ?_
  refine R4 ?_
  intro b5
  refine R7 ?_
  refine A6 (A0 rfl) ?_ ?_
  ·intro h26
   refine L8 8 F2 F2 rfl ?_
   refine R7 ?_
   refine C3 rfl rfl (E8 1 rfl G7 C8 (A0 rfl) rfl (A0 rfl) qz8 f7) ?_
   refine R1 ?_
   refine S9 1 rfl rfl rfl (A0 rfl) (A0 rfl) (V2 _) rfl C8 rfl f7 ?_
   refine R6 ?_
   refine G4 r v (r + 1) ((j0 v r).1) ?_ ?_ (Le.trans (C1 [0, 0] rfl) (E0 1 (by first | rfl | (rw [← List.map_set, List.set_set]; rfl)) ⟨rfl, rfl, rfl, trivial⟩))
   ·exact ⟨by omega, wg_copy hinv.2 h26⟩
   omega
  intro h26
  refine R6 ?_
  refine G4 r v (r + 1) (v) ?_ ?_ (Le.trans (C1 [0, 0] rfl) (E0 1 (by first | rfl | (rw [← List.map_set, List.set_set]; rfl)) ⟨rfl, rfl, rfl, trivial⟩))
  ·exact ⟨by omega, hinv.2⟩
  omega
 intro h10
 have k10 := of_decide_eq_false h10; try simp only [A5] at k10
 refine R9 ?_
 refine A4 rfl (E8 0 rfl G7 C8 (A0 rfl) rfl (A0 rfl) qz8 f7) ?_
 refine A4 rfl (W9 0 rfl (A0 rfl) rfl J9 C8 qz80 D3) ?_
 refine A4 rfl (B2 rfl Tryz.call195 rfl (Bj7 v qz8) (A1 (A0 rfl) A7)) ?_
 refine R4 ?_
 intro b7
 refine R7 ?_
 refine A6 (A0 rfl) ?_ ?_
 ·intro h47
  refine L8 8 F2 F2 rfl ?_
  refine R7 ?_
  refine C3 rfl rfl (E8 1 rfl G7 C8 (A0 rfl) rfl (A0 rfl) qz8 f7) ?_
  refine R1 ?_
  refine S9 1 rfl rfl rfl (A0 rfl) (A0 rfl) (V2 _) rfl C8 rfl f7 ?_
  refine R1 ?_
  exact H3 [2, 2, 1, 1, 1, 1, 1] 1 (nin A3.ow w.Txns T ++ nin A2.ow w.Looks L) [] (((n7 v).1)) ((by first | exact wg_adv hinv.2 h47 | exact hinv.2)) rfl (show List.Perm (nin A3.ow w.Txns T ++ nin A2.ow w.Looks L) ((nin A3.ow w.Txns T ++ nin A2.ow w.Looks L) ++ []) from B5) qz182 (U3 rfl D3 G6)
 intro h47
 refine R1 ?_
 exact H3 [2, 2, 1, 1, 1, 1, 1] 1 (nin A3.ow w.Txns T ++ nin A2.ow w.Looks L) [] (v) ((by first | exact wg_adv hinv.2 h47 | exact hinv.2)) rfl (show List.Perm (nin A3.ow w.Txns T ++ nin A2.ow w.Looks L) ((nin A3.ow w.Txns T ++ nin A2.ow w.Looks L) ++ []) from B5) qz182 (U3 rfl D3 G6)
theorem AF9 (b : Nat) (w : TWorld) (X : WX) (T : List (Value × Value)) (L : List Value) (g : Int) (r : L1) (gi : TGroup) (hx : w.Groups[g.toNat]? = some gi) (h0 : 0 ≤ g) (hg : WG gi) (hr : r.size ≤ 1000) (hk : BL4 r) : C9 Tryz.prog 178 [AV.ptr b 0, AV.int g, AV.agg r.cs] (WB b w X T L) (fun v : TGroup × Bool => WG v.1) (fun v => WB b (wGroup w g.toNat v.1) X T L) (fun v => AV.bool v.2) := by
 have hgl := (List.getElem?_eq_some_iff.1 hx).1
 have hvs := Ae7 hg.good
 refine C6 Tryz.func178 rfl Tryz.ntmps178 rfl ?_
 refine R3 ?_
 intro b5
 refine R3 ?_
 refine Q8 _ 15 (.pure 0 (.pure 1 (.pure 2 (.pure 3 (.pure 4 (.pure 5 (.pure 6 (.pure 7 (.pure 8 (.pure 9 (.pure 10 (.pure 11 (.pure 12 (.e1 13 (.e1 14 .nil))))))))))))))) F2 F2 rfl (O2 8) ?_
 refine R6 ?_
 refine K4 rfl rfl rfl (fun ext => E8 3 rfl G7 C8 (A0 rfl) rfl (A0 rfl) qz8 f7) ?_
 refine K4 rfl rfl rfl (fun ext => W9 3 rfl (A0 rfl) rfl J9 C8 qz6 D3) ?_
 refine R1 ?_
 refine K4 rfl rfl rfl (fun ext => B2 rfl Tryz.call190 rfl (Ba9 gi r qz8 qz8) (A1 (A0 rfl) (A1 (A0 rfl) A7))) ?_
 refine R4 ?_
 refine F7 rfl rfl rfl (Y2 8 <| T2 rfl Tryz.zeroValue178 rfl) (fun a _ => qz4) ?_
 intro b7 _
 refine R1 ?_
 refine c8 rfl rfl rfl (W8 8 rfl rfl (A0 rfl) (A0 rfl) (V2 _) rfl C8 rfl) (fun a _ => qz4) ?_
 intro _ _
 refine R9 ?_
 refine A6 (A0 rfl) ?_ ?_
 ·intro h23
  rw [show (d7 gi r).2 = false by simpa using h23] at *
  refine R5 ?_
  exact H3 [1, 1, 1, 1, 1, 1, 1] 2 (nin A3.ow w.Txns T ++ nin A2.ow w.Looks L) [] ((gi, false)) ((by first | exact hg | exact ok34)) rfl (show List.Perm (nin A3.ow w.Txns T ++ nin A2.ow w.Looks L) ((nin A3.ow w.Txns T ++ nin A2.ow w.Looks L) ++ []) from B5) qz156 (E4 rfl (A8 rfl B0))
 intro h23
 have hpo : (d7 gi r).2 = true := At6
 have hld : 0 ≤ gi.Lead := CJ5 hpo
 have hwp := wg_put hg hld hk hpo
 have hsp := AF8 b (wGroup w g.toNat (d7 gi r).1) X T L g (d7 gi r).1 (B3 hx) h0 hwp
 refine R2 ?_
 refine L8 8 F2 F2 rfl ?_
 refine R7 ?_
 refine C3 rfl rfl (E8 3 rfl G7 C8 (A0 rfl) rfl (A0 rfl) qz8 f7) ?_
 refine R1 ?_
 refine S9 3 rfl rfl rfl (A0 rfl) (A0 rfl) (V2 _) rfl C8 rfl f7 ?_
 refine R2 ?_
 simp only [← List.map_set]
 refine R3 ?_
 refine I1 [1, 1, 1, 1, 1, 1, 1] 2 7 (nin A3.ow w.Txns T ++ nin A2.ow w.Looks L) ([]) (fun zz => nin A3.ow w.Txns T ++ nin A2.ow w.Looks L) rfl rfl rfl rfl Tryz.call184 rfl rfl (show List.Perm (nin A3.ow w.Txns T ++ nin A2.ow w.Looks L) ((nin A3.ow w.Txns T ++ nin A2.ow w.Looks L) ++ ([])) from B5) (hsp) (A1 (A0 rfl) (A1 (A0 rfl) A7)) (fun a => J7) ?_
 intro x34 ok34
 refine R6 ?_
 exact H3 [0, 0, 0, 0, 0, 0, 0] 2 (nin A3.ow w.Txns T ++ nin A2.ow w.Looks L) [] ((x34, true)) ((by first | exact hg | exact ok34)) rfl (show List.Perm (nin A3.ow w.Txns T ++ nin A2.ow w.Looks L) ((nin A3.ow w.Txns T ++ nin A2.ow w.Looks L) ++ []) from B5) qz156 (E4 rfl (A8 rfl B0))
theorem agg_w {xs ys : List AV} (hl : xs.length = ys.length) (h : ∀ (i : Nat) (x y : AV), xs[i]? = some x → ys[i]? = some y → ∀ R v, x.den R v → y.den R v) (R : F5) (v : Value) (hv : (AV.agg xs).den R v) : (AV.agg ys).den R v := by
  obtain ⟨vs, e, hl2, hd⟩ := hv
  refine ⟨vs, e, hl2.trans hl, fun i u y hu hy => ?_⟩
  have hi : i < xs.length := by rw [hl]; exact (List.getElem?_eq_some_iff.1 hy).1
  obtain ⟨h1, h2⟩ := hd i u _ hu (List.getElem?_eq_getElem hi)
  exact ⟨h i _ y (List.getElem?_eq_getElem hi) hy _ _ h1, h2⟩
theorem AL0 {k t tm l : Int} {y : Bool} (R : F5) (v : Value) (h : (AV.agg [AV.int k, AV.int t, AV.int tm, AV.int l, AV.nils, AV.nils, AV.bool y]).den R v) : (AV.agg (L1.cs ⟨k, t, tm, l, [], [], y⟩)).den R v := by
  refine agg_w (xs := [AV.int k, AV.int t, AV.int tm, AV.int l, AV.nils, AV.nils, AV.bool y]) (ys := L1.cs ⟨k, t, tm, l, [], [], y⟩) rfl (fun i x z hx hz => ?_) R v h
  rcases i with _ | _ | _ | _ | _ | _ | _ | i
  all_goals first
    | (injection hx with hx; injection hz with hz; subst hx; subst hz; first | exact fun _ _ h => h | exact BR8)
    | (cases hx)
theorem third {node : Int} {n : Nat} (hn : 0 ≤ node ∧ node < 3 * (n : Int)) {q m : Int} (hq : Int.tdiv node 3 = q) (hm : Int.tmod node 3 = m) : 0 ≤ q ∧ q < n ∧ 0 ≤ m ∧ m < 3 ∧ node = 3 * q + m := by
  rw [Int.tdiv_eq_ediv_of_nonneg hn.1] at hq
  rw [Int.tmod_eq_emod_of_nonneg hn.1] at hm
  omega
theorem BX2 (b : Nat) (w : TWorld) (X : WX) (T : List (Value × Value)) (L : List Value) (node : Int) (hw : WI w) (hn : 0 ≤ node ∧ node < 3 * (w.Groups.length : Int)) : C9 Tryz.prog 165 [AV.ptr b 0, AV.int node] (WB b w X T L) (fun v : TWorld × Bool => WI v.1 ∧ WS w v.1 ∧ v.1.Txns = w.Txns ∧ v.1.Looks = w.Looks) (fun v => WB b v.1 X T L) (fun v => AV.bool v.2) := by
 obtain ⟨q, hq⟩ : ∃ q : Int, Int.tdiv node 3 = q := ⟨_, rfl⟩
 obtain ⟨m, hm⟩ : ∃ m : Int, Int.tmod node 3 = m := ⟨_, rfl⟩
 obtain ⟨h0, hql, hm0, hm3, hnq⟩ := third hn hq hm
 obtain ⟨gi, hx⟩ := get_some (show q.toNat < w.Groups.length by omega)
 have hgi := hw.groups gi (C4 hx)
 have hvs := Ae7 hgi.good
 have hng := hw.n
 have hgl := (List.getElem?_eq_some_iff.1 hx).1
 obtain ⟨lo, hlx⟩ := get_some (show q.toNat < w.Locks.length by rw [hw.locks.1]; omega)
 obtain ⟨pr, hpx⟩ := get_some (show q.toNat < w.Promised.length by rw [hw.promised.1]; omega)
 have hll := (List.getElem?_eq_some_iff.1 hlx).1
 have hpl := (List.getElem?_eq_some_iff.1 hpx).1
 obtain ⟨c, hcx⟩ := get_some (show node.toNat < w.Clocks.length by rw [hw.clocks.1]; omega)
 have hcg : goodClock c = true := by
  have h9 := hw.clocks.2 c (C4 hcx)
  unfold goodClock within; rw [Bool.and_eq_true, decide_eq_true_eq, decide_eq_true_eq]; exact h9
 have hnow : M.isTrue w.Now = true := by unfold M.isTrue within; rw [Bool.and_eq_true, decide_eq_true_eq, decide_eq_true_eq]; exact hw.now
 have hsp9 : -1000000 ≤ (e8 c w.Now).High ∧ (e8 c w.Now).High ≤ 1000000 := by
  have h9 := hw.clocks.2 c (C4 hcx)
  have h8 := hw.now
  show -1000000 ≤ w.Now + c.Off + 5 ∧ w.Now + c.Off + 5 ≤ 1000000
  omega
 have hwq : IntKind.i64.wrap q = q := AV8 qz8
 refine C6 Tryz.func165 rfl Tryz.ntmps165 rfl ?_
 refine R7 ?_
 refine A4 rfl (Bd0 rfl (A0 rfl) D8 qz3) ?_
 refine R3 ?_
 simp only [hq, hwq]
 refine R7 ?_
 refine A4 rfl (E8 2 rfl G7 C8 (A0 rfl) rfl (A0 rfl) qz8 f7) ?_
 refine A4 rfl (W9 2 rfl (A0 rfl) rfl J9 C8 qz6 D3) ?_
 refine R1 ?_
 refine A4 rfl (Ag3 rfl (A0 rfl) D8 qz3) ?_
 simp only [hm]
 refine A4 rfl (B2 rfl Tryz.call177 rfl (Ba7 gi m qz8) (A1 (A0 rfl) (A1 (A0 rfl) A7))) ?_
 refine R4 ?_
 intro b6
 refine R9 ?_
 refine A6 (A0 rfl) ?_ ?_
 ·intro h25
  have hpo : (electR gi m).2 = false := (by simpa using h25)
  refine R5 ?_
  exact H3 [1, 1, 1, 1, 1, 1, 1] 1 (nin A3.ow w.Txns T ++ nin A2.ow w.Looks L) [] ((w, false)) (qz139) rfl (show List.Perm (nin A3.ow w.Txns T ++ nin A2.ow w.Looks L) ((nin A3.ow w.Txns T ++ nin A2.ow w.Looks L) ++ []) from B5) B0 (E4 rfl (A8 rfl B0))
 intro h25
 have hpo : (electR gi m).2 = true := (by simpa using h25)
 have hwg := wg_elect hgi hpo
 have heg := BG5 hpo
 have hld : 0 ≤ (electR gi m).1.Lead := (by rw [heg.2.2.1]; exact hm0)
 have hgg2 : (w.Groups.set q.toNat (electR gi m).1)[q.toNat]? = some (electR gi m).1 := B3 hx
 have h1 := Z6 hw (i := q.toNat) hwg
 have h2 := Bh1 h1.1 (i := q.toNat) (l := []) ⟨Nat.zero_le _, fun x hx => (by cases hx)⟩
 have h3 := Bu8 h2.1 (i := q.toNat) (p := 0) ⟨Int.le_refl 0, D3⟩
 have hfk := y7 b (AC8 (wLocks (wGroup w q.toNat (electR gi m).1) q.toNat []) q.toNat 0) X T L q _ hgg2 h0 hwg.good hld
 have hsk := Aa4 b (AC8 (wLocks (wGroup w q.toNat (electR gi m).1) q.toNat []) q.toNat 0) X T L node c hcx hn.1 hcg hnow
 have hfl := (m9 hwg.good hld).floor
 have hpk := AF9 b (AC8 (wLocks (wGroup w q.toNat (electR gi m).1) q.toNat []) q.toNat 0) X T L q ⟨4, 0, W5 1 (W5 ((leadFull (electR gi m).1).Floor + 1) ((e8 c w.Now).High + 10)), 0, [], [], false⟩ _ hgg2 h0 hwg (show (0 : Nat) ≤ 1000 from by decide) (fun w9 hw9 => by cases hw9)
 refine R2 ?_
 refine L8 8 F2 F2 rfl ?_
 refine R7 ?_
 refine C3 rfl rfl (E8 3 rfl G7 C8 (A0 rfl) rfl (A0 rfl) qz8 f7) ?_
 refine R1 ?_
 refine S9 3 rfl rfl rfl (A0 rfl) (A0 rfl) (V2 _) rfl C8 rfl f7 ?_
 refine R9 ?_
 refine A4 rfl (E8 4 rfl Q3 Y4 (A0 rfl) rfl (A0 rfl) qz8 f7) ?_
 refine S9 4 rfl rfl rfl (A0 rfl) (O6 (sz := 3)) (Y1 _ _) rfl Y4 rfl f7 ?_
 refine R9 ?_
 refine A4 rfl (E8 5 rfl B4 B6 (A0 rfl) rfl (A0 rfl) qz8 f7) ?_
 refine S9 5 rfl rfl rfl (A0 rfl) D8 (Q1 _ _) rfl B6 rfl f7 ?_
 refine R2 ?_
 refine I3 (show _ = Go.AV.Own.box b6 178 (electR gi m).1.cs :: WB b (AC8 (wLocks (wGroup w q.toNat (electR gi m).1) q.toNat []) q.toNat 0) X T L from (by unfold WB AC8 wLocks wGroup; dsimp only; rw [List.map_set, List.map_set, List.map_set]; rfl)) ?_
 refine R5 ?_
 refine A4 rfl (X0 [1, 1, 1, 1, 1, 1, 1] 1 (nin A3.ow w.Txns T ++ nin A2.ow w.Looks L) ([]) rfl Tryz.call180 rfl rfl (B5) (hfk) (A1 (A0 rfl) (A1 (A0 rfl) A7))) ?_
 refine R2 ?_
 refine A4 rfl (X0 [1, 1, 1, 1, 1, 1, 1] 1 (nin A3.ow w.Txns T ++ nin A2.ow w.Looks L) ([]) rfl Tryz.call181 rfl rfl (B5) (hsk) (A1 (A0 rfl) (A1 (A0 rfl) A7))) ?_
 refine A4 rfl (B2 rfl Tryz.call179 rfl (Bb2 (leadFull (electR gi m).1) (e8 c w.Now) qz8 qz8) (A1 (A0 rfl) (A1 (A0 rfl) A7))) ?_
 refine R1 ?_
 refine I1 [1, 1, 1, 1, 1, 1, 1] 1 7 (nin A3.ow w.Txns T ++ nin A2.ow w.Looks L) ([]) (fun zz => nin A3.ow w.Txns T ++ nin A2.ow w.Looks L) rfl rfl rfl rfl Tryz.call178 rfl rfl (show List.Perm (nin A3.ow w.Txns T ++ nin A2.ow w.Looks L) ((nin A3.ow w.Txns T ++ nin A2.ow w.Looks L) ++ ([])) from B5) (hpk) (A1 (A0 rfl) (A1 (A0 rfl) (A1 (q7 (A0 rfl) AL0) A7))) (fun a => J7) ?_
 intro x58 ok58
 refine R6 ?_
 exact H3 [0, 0, 0, 0, 0, 0, 0] 1 (nin A3.ow w.Txns T ++ nin A2.ow w.Looks L) [] ((wGroup (AC8 (wLocks (wGroup w q.toNat (electR gi m).1) q.toNat []) q.toNat 0) q.toNat x58.1, true)) (qz139) rfl (show List.Perm (nin A3.ow w.Txns T ++ nin A2.ow w.Looks L) ((nin A3.ow w.Txns T ++ nin A2.ow w.Looks L) ++ []) from B5) B0 (E4 rfl (A8 rfl B0))
theorem part_ok {l : List H8} (h : q6 l) (t : Int) (of : Bool) : q6 (w6 l t of) := by
  unfold w6
  exact ⟨Nat.le_trans (List.length_filter_le _ _) h.1, fun x hx => h.2 x (List.mem_filter.1 hx).1⟩
theorem Ah3 {α : Type} {g : α → AV} : ∀ {v : List α}, (v.map fun l => [g l]).flatten = v.map g
  | [] => rfl
  | x :: v => by rw [List.map_cons, List.flatten_cons, Ah3, List.map_cons]; rfl
theorem flat1 {α : Type} {g : α → AV} {v : List α} {i : Nat} {x : α} (h : v[i]? = some x) : (v.map fun l => [g l]).flatten[((i : Int)).toNat * 1]? = some (g x) := by
  rw [Ah3, Int.toNat_natCast, Nat.mul_one, List.getElem?_map, h]; rfl
def r9 (w : TWorld) (v : List (List H8)) : TWorld := { w with Locks := v }
theorem Ak5 (b : Nat) (w : TWorld) (X : WX) (T : List (Value × Value)) (L : List Value) (t : Int) (hw : WI w) : C9 Tryz.prog 198 [AV.ptr b 0, AV.int t] (WB b w X T L) (fun v : List (List H8) => v.length = w.Locks.length ∧ ∀ l ∈ v, q6 l) (fun v => WB b (r9 w v) X T L) (fun _ => AV.tup []) := by
 have hng := hw.n
 have hlk := hw.locks
 refine C6 Tryz.func198 rfl Tryz.ntmps198 rfl ?_
 refine R11 ?_
 refine AWP.le (C1 [3] rfl) ?_
 refine J0 [(0, _), (1, _), (10, _)] _ (fun (i : Nat) (v : List (List H8)) => i ≤ w.Locks.length ∧ v.length = w.Locks.length ∧ ∀ l ∈ v, q6 l) (fun (i : Nat) (v : List (List H8)) => [.arr X.lo 203 1 (v.map fun l => [AV.list 3 (l.map H8.cs)])]) (fun (i : Nat) (v : List (List H8)) => [(11, AV.int i)]) (fun (i : Nat) (v : List (List H8)) => w.Locks.length - i) (0) (w.Locks) ?_ (H7 B0 ⟨rfl, rfl, rfl, rfl, trivial⟩) ?_
 ·exact ⟨Nat.zero_le _, rfl, hlk.2⟩
 intro i v hinv
 refine R5 ?_
 refine A6 (A0 rfl) ?_ ?_
 ·intro h12
  have k12 := of_decide_eq_true h12; try simp only [A5] at k12
  have hlt : i < w.Locks.length := (by simpa using h12)
  obtain ⟨l, hlx⟩ := get_some (show i < v.length by rw [hinv.2.1]; exact hlt)
  have hlo := hinv.2.2 l (C4 hlx)
  have hl60 := hlo.1
  refine R8 ?_
  refine L8 17 F2 F2 rfl ?_
  refine R12 ?_
  refine C3 rfl rfl (E8 0 rfl Q3 Y4 (A0 rfl) rfl (A0 rfl) qz8 f7) ?_
  refine C3 rfl rfl (U7 0 rfl (A0 rfl) rfl Tryz.isAgg203 (flat1 (g := fun l => AV.list 3 (l.map H8.cs)) hlx)) ?_
  refine R1 ?_
  refine C3 rfl rfl (B2 rfl Tryz.call215 rfl (Br6 l t false qz8) (A1 (A0 rfl) (A1 (A0 rfl) (A1 t0 A7)))) ?_
  refine C3 rfl rfl (E8 0 rfl Q3 Y4 (A0 rfl) rfl (A0 rfl) qz8 f7) ?_
  refine R1 ?_
  refine S9 0 rfl rfl rfl (A0 rfl) (A0 rfl) (Y1 _ _) rfl Y4 rfl f7 ?_
  refine R5 ?_
  refine G4 i v (i + 1) (v.set i (w6 l t false)) ?_ ?_ (Le.trans (C1 [0] rfl) (H7 (by (rw [List.map_set]; rfl)) ⟨rfl, rfl, rfl, rfl, trivial⟩))
  ·exact ⟨by omega, by rw [List.length_set]; exact hinv.2.1, n9 hinv.2.2 (part_ok hlo t false)⟩
  omega
 intro h12
 have k12 := of_decide_eq_false h12; try simp only [A5] at k12
 refine R1 ?_
 exact H3 [1, 1, 1, 0, 0, 0, 0] 0 (nin A3.ow w.Txns T ++ nin A2.ow w.Looks L) [] (v) (hinv.2) rfl (show List.Perm (nin A3.ow w.Txns T ++ nin A2.ow w.Looks L) ((nin A3.ow w.Txns T ++ nin A2.ow w.Looks L) ++ []) from B5) B0 (U3 rfl D3 G6)
theorem j7 {T X : Type} {ocs : T → X → List AV} {l : List T} {xs : List X} {i : Nat} {p p' : T} {x : X} (hp : l[i]? = some p) (hx : xs[i]? = some x) : nrows ocs (l.set i p') xs = (nrows ocs l xs).set i (ocs p' x) := by
  rw [← Bx5 (p' := p') hp hx, s4 hp hx]
  have ht := q9 (ocs := ocs) hp hx
  rw [List.set_append_right _ _ qz8, ht, Nat.sub_self, AQ1]
theorem AE4 {T X : Type} {ow : T → X → List Go.AV.Own} : ∀ {l : List T} {xs : List X} {i : Nat} {p p' : T}, l[i]? = some p → (∀ x, ow p' x = ow p x) → nin ow (l.set i p') xs = nin ow l xs
  | [], _, _, _, _, h, _ => by simp at h
  | q :: l, [], i, _, _, h, _ => by cases i <;> rfl
  | q :: l, y :: xs, 0, p, p', h, he => by
    simp at h; subst h
    show ow p' y ++ nin ow l xs = ow q y ++ nin ow l xs
    rw [he]
  | q :: l, y :: xs, i + 1, p, p', h, he => by
    show ow q y ++ nin ow (l.set i p') xs = ow q y ++ nin ow l xs
    rw [AE4 (l := l) s9 he]
def Av9 (t : A3) : A3 := { t with Dead := true }
def Aw0 (w : TWorld) (t : Int) : TWorld := match w.Txns[(t - 1).toNat]? with
  | some x => wTxn w (t - 1).toNat (Av9 x)
  | none => w
theorem died_wi {w : TWorld} (hw : WI w) (t : Int) : WF w (Aw0 w t) := by
  unfold Aw0
  split
  · rename_i x hx
    have h := hw.txns.2 x (C4 hx)
    have h2 := AS0 hw (i := (t - 1).toNat) (t := Av9 x) ⟨h.terms, h.ops, h.got, h.span⟩
    exact ⟨h2.1, h2.2, rfl, rfl⟩
  · exact WF.refl hw
theorem AQ8 {w : TWorld} (hw : WI w) {v : List (List H8)} (hv : v.length = w.Locks.length ∧ ∀ l ∈ v, q6 l) : WI (r9 w v) ∧ WS w (r9 w v) :=
  ⟨⟨hw.n, hw.clocks, hw.cuts, ⟨hv.1.trans hw.locks.1, hv.2⟩, hw.promised, hw.groups, hw.txns, hw.looks, hw.now, hw.count⟩, ⟨rfl, rfl, rfl, rfl, rfl, rfl⟩⟩
theorem AQ9 {w : TWorld} (hw : WI w) {v : List (List H8)} (hv : v.length = w.Locks.length ∧ ∀ l ∈ v, q6 l) : WF w (r9 w v) := ⟨(AQ8 hw hv).1, (AQ8 hw hv).2, rfl, rfl⟩
theorem AV3 (b : Nat) (w : TWorld) (X : WX) (T : List (Value × Value)) (L : List Value) (t : Int) (hw : WI w) (hT : T.length = w.Txns.length) (ht : 1 ≤ t ∧ t ≤ 1000000) : C9 Tryz.prog 212 [AV.ptr b 0, AV.int t] (WB b w X T L) (fun v : TWorld => WF w v) (fun v => WB b v X T L) (fun _ => AV.tup []) := by
 have hng := hw.n
 have hd := died_wi hw t
 have hfr := Ak5 b (Aw0 w t) X T L t hd.wi
 obtain ⟨W', hW⟩ : ∃ W' : TWorld, Aw0 w t = W' := ⟨_, rfl⟩
 rw [hW] at hfr hd
 refine C6 Tryz.func212 rfl Tryz.ntmps212 rfl ?_
 refine R12 ?_
 refine A6 (A0 rfl) ?_ ?_
 ·intro h11
  have k11 := of_decide_eq_true h11; try simp only [A5] at k11
  have hlt : (t - 1).toNat < w.Txns.length := (by simp only [S6 hT] at k11; omega)
  obtain ⟨tx, htx⟩ := get_some hlt
  obtain ⟨y, hy⟩ := get_some (show (t - 1).toNat < T.length by omega)
  have hW1 : W' = wTxn w (t - 1).toNat (Av9 tx) := (by rw [← hW]; unfold Aw0; rw [htx])
  refine R8 ?_
  refine A4 rfl (E8 5 rfl K0 N7 (A0 rfl) rfl (A0 rfl) qz8 (by rw [S6 hT]; omega)) ?_
  refine A4 rfl (I9 5 rfl H6 rfl N9 (A0 rfl) rfl rfl qz2) ?_
  refine T1 5 rfl rfl rfl (A0 rfl) t0 (u4 _) rfl N9 qz2 rfl ?_
  refine R1 ?_
  refine I3 (show _ = WB b W' X T L from qz132) ?_
  refine R3 ?_
  refine I1 [0, 0, 0, 0, 0, 0, 0] 0 7 (nin A3.ow W'.Txns T ++ nin A2.ow W'.Looks L) ([]) (fun zz => nin A3.ow W'.Txns T ++ nin A2.ow W'.Looks L) rfl rfl rfl rfl Tryz.call198 rfl rfl (show List.Perm (nin A3.ow W'.Txns T ++ nin A2.ow W'.Looks L) ((nin A3.ow W'.Txns T ++ nin A2.ow W'.Looks L) ++ ([])) from B5) (hfr) (A1 (A0 rfl) (A1 (A0 rfl) A7)) (fun a => J7) ?_
  intro x23 ok23
  refine R1 ?_
  exact H3 [0, 0, 0, 0, 0, 0, 0] 0 (nin A3.ow W'.Txns T ++ nin A2.ow W'.Looks L) [] ((r9 W' x23)) (hd.trans (AQ9 hd.wi ok23)) rfl (show List.Perm (nin A3.ow W'.Txns T ++ nin A2.ow W'.Looks L) ((nin A3.ow W'.Txns T ++ nin A2.ow W'.Looks L) ++ []) from B5) B0 (U3 rfl D3 G6)
 intro h11
 have k11 := of_decide_eq_false h11; try simp only [A5] at k11
 have hW1 : W' = w := (by rw [← hW]; unfold Aw0; rw [List.getElem?_eq_none (by simp only [S6 hT] at k11; omega)])
 refine R1 ?_
 refine I3 (show _ = WB b W' X T L from qz132) ?_
 refine R3 ?_
 refine I1 [0, 0, 0, 0, 0, 0, 0] 0 7 (nin A3.ow W'.Txns T ++ nin A2.ow W'.Looks L) ([]) (fun zz => nin A3.ow W'.Txns T ++ nin A2.ow W'.Looks L) rfl rfl rfl rfl Tryz.call198 rfl rfl (show List.Perm (nin A3.ow W'.Txns T ++ nin A2.ow W'.Looks L) ((nin A3.ow W'.Txns T ++ nin A2.ow W'.Looks L) ++ ([])) from B5) (hfr) (A1 (A0 rfl) (A1 (A0 rfl) A7)) (fun a => J7) ?_
 intro x23 ok23
 refine R1 ?_
 exact H3 [0, 0, 0, 0, 0, 0, 0] 0 (nin A3.ow W'.Txns T ++ nin A2.ow W'.Looks L) [] ((r9 W' x23)) (hd.trans (AQ9 hd.wi ok23)) rfl (show List.Perm (nin A3.ow W'.Txns T ++ nin A2.ow W'.Looks L) ((nin A3.ow W'.Txns T ++ nin A2.ow W'.Looks L) ++ []) from B5) B0 (U3 rfl D3 G6)
theorem As1 {α : Type} {g : α → AV} {v : List α} {k : Int} {x : α} (h : v[k.toNat]? = some x) : (v.map fun l => [g l]).flatten[k.toNat * 1]? = some (g x) := by
  rw [Ah3, Nat.mul_one, List.getElem?_map, h]; rfl
theorem r6 {w : TWorld} {T : List (Value × Value)} {L : List Value} {i : Nat} {tx : A3} {y : Value × Value} (hp : w.Txns[i]? = some tx) (hy : T[i]? = some y) : (nin A3.ow w.Txns T ++ nin A2.ow w.Looks L).Perm (A3.ow tx y ++ (nin A3.ow (w.Txns.eraseIdx i) (T.eraseIdx i) ++ nin A2.ow w.Looks L)) := by
  rw [← List.append_assoc]
  exact (v9 (ow := A3.ow) hp hy).append_right _
theorem BX3 (b : Nat) (w : TWorld) (X : WX) (T : List (Value × Value)) (L : List Value) (g t : Int) (tx : A3) (y : Value × Value) (n : Int) (gi : TGroup) (htx : w.Txns[(t - 1).toNat]? = some tx) (hy : T[(t - 1).toNat]? = some y) (hT : T.length = w.Txns.length) (ht : 1 ≤ t ∧ t ≤ 1000000) (hg0 : 0 ≤ g) (hn : tx.Terms[g.toNat]? = some n) (hx : w.Groups[g.toNat]? = some gi) : C9 Tryz.prog 230 [AV.ptr b 0, AV.int g, AV.int t] (WB b w X T L) (fun _ : Unit => True) (fun _ => WB b w X T L) (fun _ => AV.bool ((n != 0) && (n != gi.Term))) := by
  have htl := (List.getElem?_eq_some_iff.1 htx).1
  have hgl := (List.getElem?_eq_some_iff.1 hx).1
  have hnl := (List.getElem?_eq_some_iff.1 hn).1
  refine C6 Tryz.func230 rfl Tryz.ntmps230 rfl ?_
  refine R5 ?_
  refine AWP.le (N4 7 (t := ([Go.AV.Own.arr y.1 45 3 (tx.Got.map G5.cs), Go.AV.Own.arr y.2 3 1 (tx.Terms.map fun n => [AV.int n])]) ++ (nin A3.ow (w.Txns.eraseIdx (t - 1).toNat) (T.eraseIdx (t - 1).toNat) ++ nin A2.ow w.Looks L)) (r6 htx hy)) ?_
  refine R8 ?_
  refine A4 rfl (E8 5 rfl K0 N7 (A0 rfl) rfl (A0 rfl) qz8 AL7) ?_
  refine A4 rfl (I9 5 rfl H6 rfl Tryz.sizeOf25 (A0 rfl) rfl rfl qz2) ?_
  refine A4 rfl (K1 5 rfl (A0 rfl) rfl Tryz.isAgg25 qz2 rfl) ?_
  refine R1 ?_
  refine A4 rfl (E8 8 rfl B4 B6 (A0 rfl) rfl (A0 rfl) qz8 AL7) ?_
  refine A4 rfl (U7 8 rfl (A0 rfl) rfl I7 (As1 (g := AV.int) hn)) ?_
  refine R3 ?_
  refine AWP.le (C1 [0, 0, 0, 0, 0, 0, 0, 0, 0] rfl) ?_
  refine AWP.le (N4 7 (t := nin A3.ow w.Txns T ++ nin A2.ow w.Looks L) ((r6 htx hy).symm)) ?_
  refine R11 ?_
  refine L4 rfl (fun hc => E8 2 rfl G7 C8 (B1 rfl hc) rfl (B1 rfl hc) qz8 AL7) ?_
  refine L4 rfl (fun hc => I9 2 rfl Q2 rfl B6 (B1 rfl hc) rfl rfl qz6) ?_
  refine L4 rfl (fun hc => K1 2 rfl (B1 rfl hc) rfl I7 qz6 rfl) ?_
  refine R5 ?_
  exact H3 [0, 0, 0, 0, 0, 0, 0] 0 (nin A3.ow w.Txns T ++ nin A2.ow w.Looks L) [] () (trivial) rfl (show List.Perm (nin A3.ow w.Txns T ++ nin A2.ow w.Looks L) ((nin A3.ow w.Txns T ++ nin A2.ow w.Looks L) ++ []) from B5) B0 (E4 rfl (A8 rfl B0))
end Go.Proofs.YtcfkbhnpfjjmjaaGreat
namespace Go.M
open Go.AV
theorem CK5 (l : List Int) (n : Int) : (putI l n).length ≤ l.length + 1 := by
  induction l with
  | nil => simp [putI]
  | cons y l ih =>
    unfold putI
    split
    · rw [H4, H4]; omega
    · split <;> simp
theorem BX4 {n m : Int} : ∀ {l : List Int}, m ∈ putI l n → m = n ∨ m ∈ l
  | [], h => by unfold putI at h; exact .inl (List.mem_singleton.1 h)
  | x :: l, h => by
    unfold putI at h
    split at h
    · rcases List.mem_cons.1 h with h | h
      · exact .inr (h ▸ List.mem_cons_self)
      · rcases BX4 h with h | h
        · exact .inl h
        · exact .inr (List.mem_cons_of_mem _ h)
    · split at h
      · exact .inr h
      · rcases List.mem_cons.1 h with h | h
        · exact .inl h
        · exact .inr h
theorem BJ2 {m : Int} : ∀ {l : List H8} {a : List Int}, m ∈ l.foldl (fun a y => putI a y.Txn) a → m ∈ a ∨ ∃ y ∈ l, y.Txn = m
  | [], a, h => .inl h
  | y :: l, a, h => by
    rw [List.foldl_cons] at h
    rcases BJ2 h with h | ⟨z, hz, e⟩
    · rcases BX4 h with h | h
      · exact .inr ⟨y, List.mem_cons_self, h.symm⟩
      · exact .inl h
    · exact .inr ⟨z, List.mem_cons_of_mem _ hz, e⟩
theorem ask_mem9 {l : List H8} {x : H8} (h : q6 l) : ∀ n ∈ (AN8 l [] x (waitsS l x)).2, 1 ≤ n ∧ n ≤ 1000000 := fun n hn => by
  have hw : n ∈ waitsS l x := by
    unfold AN8 at hn
    split at hn
    · cases hn
    · split at hn
      · cases hn
      · exact hn
  unfold waitsS at hw
  rcases BJ2 hw with h1 | ⟨y, hy, e⟩
  · cases h1
  · rw [← e]; exact (h.2 y (List.mem_filter.1 hy).1).1
theorem ask_len9 {l : List H8} {x : H8} : (AN8 l [] x (waitsS l x)).2.length ≤ l.length := by
  have h : (waitsS l x).length ≤ l.length := by
    have h1 : ∀ (m : List H8) (a : List Int), (m.foldl (fun a y => putI a y.Txn) a).length ≤ a.length + m.length := fun m => by
      induction m with
      | nil => intro a; simp
      | cons y m ih => intro a; rw [List.foldl_cons]; have h2 := ih (putI a y.Txn); have h3 := CK5 a y.Txn; rw [H4]; omega
    have h2 := h1 (l.filter (AS7 x)) []
    have h3 := List.length_filter_le (AS7 x) l
    unfold waitsS
    rw [M6] at h2; omega
  unfold AN8
  split
  · exact Nat.zero_le _
  · split
    · exact Nat.zero_le _
    · exact h
theorem BX5 {x z : H8} : ∀ {l : List H8}, z ∈ takeL l x → z = x ∨ ∃ y ∈ l, z.Key = y.Key ∧ z.Txn = y.Txn
  | [], h => by unfold takeL at h; exact .inl (List.mem_singleton.1 h)
  | y :: l, h => by
    unfold takeL at h
    split at h
    · rcases List.mem_cons.1 h with h | h
      · exact .inr ⟨y, List.mem_cons_self, by rw [h], by rw [h]⟩
      · exact .inr ⟨z, List.mem_cons_of_mem _ h, rfl, rfl⟩
    · rcases List.mem_cons.1 h with h | h
      · exact .inr ⟨y, List.mem_cons_self, by rw [h], by rw [h]⟩
      · rcases BX5 h with h | ⟨q, hq, e⟩
        · exact .inl h
        · exact .inr ⟨q, List.mem_cons_of_mem _ hq, e⟩
theorem take_ok9 {l : List H8} {x : H8} (h : q6 l) (hx : (1 ≤ x.Txn ∧ x.Txn ≤ 1000000) ∧ x.Key.length ≤ 64) (hl : (takeL l x).length ≤ 60) : q6 (takeL l x) := by
  refine ⟨hl, fun z hz => ?_⟩
  rcases BX5 hz with e | ⟨y, hy, e1, e2⟩
  · rw [e]; exact hx
  · have h9 := h.2 y hy
    refine ⟨by rw [e2]; exact h9.1, ?_⟩
    have h8 := h9.2
    unfold H8.size at h8 ⊢; rw [e1]; exact h8
theorem BX6 {x : H8} : ∀ {l : List H8}, (takeL l x).length ≤ l.length + 1
  | [] => by unfold takeL; exact Nat.le_refl _
  | y :: l => by
    unfold takeL
    split
    · simp
    · rw [H4, H4]; have := BX6 (x := x) (l := l); omega
theorem AA3 {α : Type} {l : List α} {i : Nat} {x y : α} (h : l[i]? = some x) : (l.set i y)[i]? = some y := List.getElem?_set_self (List.getElem?_eq_some_iff.1 h).1
theorem AU4 {T X : Type} {ocs : T → X → List AV} {l : List T} {xs : List X} {i : Nat} (h : l[i]? = none ∨ xs[i]? = none) : (nrows ocs l xs)[i]? = none := by
  unfold nrows
  rw [List.getElem?_zipWith]
  rcases h with h | h
  · rw [h]
  · rw [h]; cases l[i]? <;> rfl
def Y6 (t : A3) (g : Nat) (n : Int) : A3 := { t with Terms := t.Terms.set g n }
theorem wf_lock {w : TWorld} (hw : WI w) {g : Nat} {l : List H8} (hl : q6 l) {i : Nat} {t : A3} (ht : w.Txns[i]? = some t) (n : Int) : WF w (wTxn (wLocks w g l) i (Y6 t g n)) := by
  have h1 := Bh1 hw (i := g) hl
  have h := hw.txns.2 t (C4 ht)
  have h2 := AS0 h1.1 (i := i) (t := Y6 t g n) ⟨by show (t.Terms.set g n).length = _; rw [List.length_set]; exact h.terms, h.ops, h.got, h.span⟩
  exact ⟨h2.1, h1.2.trans h2.2, rfl, rfl⟩
end Go.M
namespace Go.Proofs.YtcfkbhnpfjjmjaaGreat
open Go Go.AV Go.M
attribute [local irreducible] OpW OpA OpS AWP B9 J2 C9 OpE RetOk H0 I6 Le Ev F1 J8 V9 Int.tmod Int.tdiv IntKind.wrap bandI
theorem BX7 {T X : Type} {ocs : T → X → List AV} {l : List T} {xs : List X} {i : Nat} {p p' : T} {x x' : X} (hp : l[i]? = some p) (hx : xs[i]? = some x) : nrows ocs (l.set i p') (xs.set i x') = (nrows ocs l xs).set i (ocs p' x') := by
  apply List.ext_getElem?
  intro j
  by_cases e : i = j
  · subst e
    rw [P4 (AA3 hp) (AA3 hx), AA3 (P4 hp hx)]
  · rw [List.getElem?_set_ne e]
    cases h1 : l[j]? with
    | none => rw [AU4 (by rw [List.getElem?_set_ne e]; exact .inl h1), AU4 (.inl h1)]
    | some q =>
      cases h2 : xs[j]? with
      | none => rw [AU4 (by rw [List.getElem?_set_ne e (l := xs)]; exact .inr h2), AU4 (.inr h2)]
      | some z => rw [P4 (by rw [List.getElem?_set_ne e]; exact h1) (by rw [List.getElem?_set_ne e]; exact h2), P4 h1 h2]
theorem CC9 {T X : Type} {ocs : T → X → List AV} {l : List T} {xs : List X} {i : Nat} {p p' : T} {x : X} (hp : l[i]? = some p) (hx : xs[i]? = some x) (he : ocs p' x = ocs p x) : nrows ocs (l.set i p') xs = nrows ocs l xs := by rw [j7 hp hx, he, Ae8 (P4 hp hx)]
theorem BJ3 {w : TWorld} {T : List (Value × Value)} {L : List Value} {i : Nat} {p p' : A3} {y y' : Value × Value} (hp : w.Txns[i]? = some p) (hy : T[i]? = some y) : (A3.ow p' y' ++ (nin A3.ow (w.Txns.eraseIdx i) (T.eraseIdx i) ++ nin A2.ow w.Looks L)).Perm (nin A3.ow (w.Txns.set i p') (T.set i y') ++ nin A2.ow w.Looks L) := by
  have h9 := v9 (ow := A3.ow) (AA3 (y := p') hp) (AA3 (y := y') hy)
  rw [List.eraseIdx_set_eq, List.eraseIdx_set_eq] at h9
  rw [← List.append_assoc]
  exact h9.symm.append_right _
theorem As2 {w : TWorld} {T : List (Value × Value)} {L : List Value} {i : Nat} {p : A2} {y : Value} (hp : w.Looks[i]? = some p) (hy : L[i]? = some y) : (nin A3.ow w.Txns T ++ nin A2.ow w.Looks L).Perm (A2.ow p y ++ (nin A2.ow (w.Looks.eraseIdx i) (L.eraseIdx i) ++ nin A3.ow w.Txns T)) := by
  refine List.perm_append_comm.trans ?_
  rw [← List.append_assoc]
  exact (v9 (ow := A2.ow) hp hy).append_right _
theorem lk_put {w : TWorld} {T : List (Value × Value)} {L : List Value} {i : Nat} {p p' : A2} {y y' : Value} (hp : w.Looks[i]? = some p) (hy : L[i]? = some y) : (A2.ow p' y' ++ (nin A2.ow (w.Looks.eraseIdx i) (L.eraseIdx i) ++ nin A3.ow w.Txns T)).Perm (nin A3.ow w.Txns T ++ nin A2.ow (w.Looks.set i p') (L.set i y')) := by
  have h9 := v9 (ow := A2.ow) (AA3 (y := p') hp) (AA3 (y := y') hy)
  rw [List.eraseIdx_set_eq, List.eraseIdx_set_eq] at h9
  rw [← List.append_assoc]
  exact (h9.symm.append_right _).trans List.perm_append_comm
theorem Bl0 (b : Nat) (w : TWorld) (X : WX) (T : List (Value × Value)) (L : List Value) (g t : Int) (k : Str) (write : Bool) (gi : TGroup) (hw : WI w) (hT : T.length = w.Txns.length) (ht : 1 ≤ t ∧ (t - 1).toNat < w.Txns.length) (h0 : 0 ≤ g) (hx : w.Groups[g.toNat]? = some gi) (hl : 0 ≤ gi.Lead) (hk : k.length ≤ 12) : C9 Tryz.prog 231 [AV.ptr b 0, AV.int g, AV.int t, AV.str k, AV.bool write] (WB b w X T L) (fun v : TWorld × Bool => WF w v.1) (fun v => WB b v.1 X T L) (fun v => AV.bool v.2) := by
 have hng := hw.n
 have htn := hw.txns.1
 have hgi := hw.groups gi (C4 hx)
 have hgl := (List.getElem?_eq_some_iff.1 hx).1
 obtain ⟨lo, hlx⟩ := get_some (show g.toNat < w.Locks.length by rw [hw.locks.1]; omega)
 have hlo := hw.locks.2 lo (C4 hlx)
 have hlo60 := hlo.1
 have hll := (List.getElem?_eq_some_iff.1 hlx).1
 obtain ⟨kr, hko⟩ := Bk9 b w X T L g t k write gi hx h0 hgi.good hl
 obtain ⟨W, hW⟩ : ∃ W, (AN8 lo [] ⟨k, t, write⟩ (waitsS lo ⟨k, t, write⟩)).2 = W := ⟨_, rfl⟩
 obtain ⟨cd, hcd⟩ : ∃ cd, (AN8 lo [] ⟨k, t, write⟩ (waitsS lo ⟨k, t, write⟩)).1 = cd := ⟨_, rfl⟩
 have hwm := ask_mem9 (x := ⟨k, t, write⟩) hlo
 have hask := Bk2 lo [] ⟨k, t, write⟩ qz8
 rw [hcd, hW] at hask
 have hWl : W.length ≤ 60 := by rw [← hW]; exact Nat.le_trans (ask_len9 (x := ⟨k, t, write⟩)) hlo60
 rw [hW] at hwm
 refine C6 Tryz.func231 rfl Tryz.ntmps231 rfl ?_
 refine R12 ?_
 refine A4 rfl (X0 [0, 0, 0, 0, 0, 0, 0] 0 (nin A3.ow w.Txns T ++ nin A2.ow w.Looks L) ([]) rfl Tryz.call245 rfl rfl (B5) (hko) (A1 (A0 rfl) (A1 (A0 rfl) (A1 (A0 rfl) (A1 (A0 rfl) (A1 (A0 rfl) A7)))))) ?_
 refine R1 ?_
 refine A6 (A0 rfl) ?_ ?_
 ·intro h22
  refine R5 ?_
  exact H3 [0, 0, 0, 0, 0, 0, 0] 0 (nin A3.ow w.Txns T ++ nin A2.ow w.Looks L) [] ((w, false)) (qz37) rfl (show List.Perm (nin A3.ow w.Txns T ++ nin A2.ow w.Looks L) ((nin A3.ow w.Txns T ++ nin A2.ow w.Looks L) ++ []) from B5) qz76 (E4 rfl (A8 rfl B0))
 intro h22
 refine R8 ?_
 intro b11
 refine R10 ?_
 refine C3 rfl rfl (E8 4 rfl Q3 Y4 (A0 rfl) rfl (A0 rfl) qz8 BM6) ?_
 refine C3 rfl rfl (U7 4 rfl (A0 rfl) rfl Tryz.isAgg203 (As1 (g := fun l => AV.list 3 (l.map H8.cs)) hlx)) ?_
 refine R1 ?_
 refine C3 rfl rfl (B2 rfl Tryz.call246 rfl (hask) (A1 (A0 rfl) (A1 O6 (A1 (A0 rfl) A7)))) ?_
 refine R12 ?_
 refine A6 (A0 rfl) ?_ ?_
 ·intro h41
  have k41 := D1 h41; try simp only [A5] at k41
  refine R5 ?_
  exact H3 [1, 1, 1, 1, 1, 1, 1] 1 (nin A3.ow w.Txns T ++ nin A2.ow w.Looks L) [] ((w, false)) (qz37) rfl (show List.Perm (nin A3.ow w.Txns T ++ nin A2.ow w.Looks L) ((nin A3.ow w.Txns T ++ nin A2.ow w.Looks L) ++ []) from B5) qz76 (E4 rfl (A8 rfl B0))
 intro h41
 have k41 := D5 h41; try simp only [A5] at k41
 refine R9 ?_
 refine I3 qz116 ?_
 refine AWP.le (C1 [1, 1, 1, 1, 1, 1, 1] rfl) ?_
 refine J0 [(0, _), (1, _), (2, _), (10, _), (11, _), (42, _), (43, _)] [] (fun (i : Nat) (v : TWorld) => i ≤ W.length ∧ WF w v) (fun (i : Nat) (v : TWorld) => [.box b 199 [AV.int v.Now, AV.int v.Count, AV.is X.cl, strs v.Cuts, AV.is X.gr, AV.is X.lo, AV.is X.pr, AV.is X.tx, AV.is X.lk], .arr X.cl 234 1 (v.Clocks.map V6.cs), .arr X.gr 178 3 (v.Groups.map TGroup.cs), .arr X.lo 203 1 (v.Locks.map fun l => [AV.list 3 (l.map H8.cs)]), .arr X.pr 3 1 (v.Promised.map fun n => [AV.int n]), .arr X.tx 143 10 (nrows A3.ocs v.Txns T), .arr X.lk 152 6 (nrows A2.ocs v.Looks L), .box b11 277 (H8.mk k t write).cs] ++ (nin A3.ow v.Txns T ++ nin A2.ow v.Looks L)) (fun (i : Nat) (v : TWorld) => [(44, AV.int i)]) (fun (i : Nat) (v : TWorld) => W.length - i) (0) (w) ?_ (H7 (by (rw [List.append_nil]; rfl)) ⟨rfl, rfl, rfl, rfl, rfl, rfl, rfl, rfl, trivial⟩) ?_
 ·exact ⟨Nat.zero_le _, WF.refl hw⟩
 intro i v hinv
 refine I3 (List.append_nil _) ?_
 refine R5 ?_
 refine A6 (A0 rfl) ?_ ?_
 ·intro h45
  have k45 := of_decide_eq_true h45; try simp only [A5] at k45
  have hlt : i < W.length := (by simpa using h45)
  obtain ⟨y, hy⟩ := get_some hlt
  have hy1 := hwm y (C4 hy)
  have hTv : T.length = v.Txns.length := hT.trans hinv.2.ws.txns.symm
  refine R5 ?_
  refine A4 rfl (C7 rfl B4 B6 (A0 rfl) (A0 rfl) hy qz3) ?_
  refine R6 ?_
  refine I1 [0, 0, 0, 0, 0, 0, 0] 1 7 (nin A3.ow v.Txns T ++ nin A2.ow v.Looks L) ([]) (fun zz => nin A3.ow zz.Txns T ++ nin A2.ow zz.Looks L) rfl rfl rfl rfl Tryz.call212 rfl rfl (show List.Perm (nin A3.ow v.Txns T ++ nin A2.ow v.Looks L) ((nin A3.ow v.Txns T ++ nin A2.ow v.Looks L) ++ ([])) from B5) (AV3 b v X T L y hinv.2.wi hTv hy1) (A1 (A0 rfl) (A1 (A0 rfl) A7)) (fun a => J7) ?_
  intro x50 ok50
  refine R5 ?_
  refine G4 i v (i + 1) (x50) ?_ ?_ (H7 (Eq.trans B0 (List.append_nil _).symm) ⟨rfl, rfl, rfl, rfl, rfl, rfl, rfl, rfl, trivial⟩)
  ·exact ⟨by omega, hinv.2.trans ok50⟩
  omega
 intro h45
 have k45 := of_decide_eq_false h45; try simp only [A5] at k45
 have hv := hinv.2
 have hTv : T.length = v.Txns.length := hT.trans hv.ws.txns.symm
 obtain ⟨tx, htx⟩ := get_some (show (t - 1).toNat < v.Txns.length by rw [hv.ws.txns]; exact ht.2)
 obtain ⟨z, hz⟩ := get_some (show (t - 1).toNat < T.length by omega)
 obtain ⟨n, hn⟩ := get_some (show g.toNat < tx.Terms.length by rw [(hv.wi.txns.2 tx (C4 htx)).terms, hv.gr]; exact hgl)
 have hnl := (List.getElem?_eq_some_iff.1 hn).1
 obtain ⟨lv, hlx⟩ := get_some (show g.toNat < v.Locks.length by rw [hv.wi.locks.1, hv.gr]; exact hgl)
 have hll := (List.getElem?_eq_some_iff.1 hlx).1
 have hlvo := hv.wi.locks.2 lv (C4 hlx)
 have hlv60 := hlvo.1
 have htl := BX6 (x := ⟨k, t, write⟩) (l := lv)
 have hx : v.Groups[g.toNat]? = some gi := (by rw [hv.gr]; exact hx)
 have hgl := (List.getElem?_eq_some_iff.1 hx).1
 refine R9 ?_
 refine C3 rfl rfl (E8 3 rfl Q3 Y4 (A0 rfl) rfl (A0 rfl) qz8 BM6) ?_
 refine C3 rfl rfl (U7 3 rfl (A0 rfl) rfl Tryz.isAgg203 (As1 (g := fun l => AV.list 3 (l.map H8.cs)) hlx)) ?_
 refine R1 ?_
 refine C3 rfl rfl (B2 rfl Tryz.call247 rfl (Bb0 lv ⟨k, t, write⟩ qz8) (A1 (A0 rfl) (A1 (A0 rfl) A7))) ?_
 refine R9 ?_
 refine A6 (A0 rfl) ?_ ?_
 ·intro h64
  have k64 := of_decide_eq_true h64; try simp only [A5] at k64
  refine R5 ?_
  exact H3 [0, 0, 0, 0, 0, 0, 0] 1 (nin A3.ow v.Txns T ++ nin A2.ow v.Looks L) [] ((v, false)) (qz37) rfl (show List.Perm (nin A3.ow v.Txns T ++ nin A2.ow v.Looks L) ((nin A3.ow v.Txns T ++ nin A2.ow v.Looks L) ++ []) from B5) qz76 (E4 rfl (A8 rfl B0))
 intro h64
 have k64 := of_decide_eq_false h64; try simp only [A5] at k64
 refine R10 ?_
 refine A4 rfl (E8 3 rfl Q3 Y4 (A0 rfl) rfl (A0 rfl) qz8 BM6) ?_
 refine S9 3 rfl rfl rfl (A0 rfl) (A0 rfl) (Y1 _ _) rfl Y4 rfl f7 ?_
 refine R2 ?_
 refine I3 t6 ?_
 refine AWP.le (N4 8 (t := ([Go.AV.Own.arr z.1 45 3 (tx.Got.map G5.cs), Go.AV.Own.arr z.2 3 1 (tx.Terms.map fun n => [AV.int n])]) ++ (nin A3.ow (v.Txns.eraseIdx (t - 1).toNat) (T.eraseIdx (t - 1).toNat) ++ nin A2.ow v.Looks L)) (r6 htx hz)) ?_
 refine L8 21 F2 F2 rfl ?_
 refine R7 ?_
 refine C3 rfl rfl (E8 5 rfl K0 N7 (A0 rfl) rfl (A0 rfl) qz8 BM6) ?_
 refine C3 rfl rfl (I9 5 rfl H6 rfl Tryz.sizeOf25 (A0 rfl) rfl rfl qz83) ?_
 refine C3 rfl rfl (K1 5 rfl (A0 rfl) rfl Tryz.isAgg25 qz83 rfl) ?_
 refine R7 ?_
 refine C3 rfl rfl (E8 2 rfl G7 C8 (A0 rfl) rfl (A0 rfl) qz8 BM6) ?_
 refine C3 rfl rfl (I9 2 rfl Q2 rfl B6 (A0 rfl) rfl rfl qz6) ?_
 refine C3 rfl rfl (K1 2 rfl (A0 rfl) rfl I7 qz6 rfl) ?_
 refine C3 rfl rfl (E8 9 rfl B4 B6 (A0 rfl) rfl (A0 rfl) qz8 BM6) ?_
 refine R1 ?_
 refine S9 9 rfl rfl rfl (A0 rfl) (A0 rfl) (Q1 _ _) rfl B6 rfl f7 ?_
 refine R2 ?_
 refine I3 t6 ?_
 refine AWP.le (C1 [0, 0, 0, 0, 0, 0, 0, 0, 0, 0] rfl) ?_
 refine AWP.le (N4 8 (t := nin A3.ow (v.Txns.set (t - 1).toNat (Y6 tx g.toNat gi.Term)) T ++ nin A2.ow v.Looks L) ((by have h9 := BJ3 (w := v) (L := L) (p' := Y6 tx g.toNat gi.Term) (y' := z) htx hz; rw [Ae8 hz] at h9; unfold A3.ow Y6 at h9 ⊢; dsimp only at h9; rw [List.map_set] at h9; exact h9))) ?_
 refine R4 ?_
 exact H3 [0, 0, 0, 0, 0, 0, 0] 1 (nin A3.ow (v.Txns.set (t - 1).toNat (Y6 tx g.toNat gi.Term)) T ++ nin A2.ow v.Looks L) [] ((wTxn (wLocks v g.toNat (takeL lv ⟨k, t, write⟩)) (t - 1).toNat (Y6 tx g.toNat gi.Term), true)) (qz37) rfl (show List.Perm (nin A3.ow (v.Txns.set (t - 1).toNat (Y6 tx g.toNat gi.Term)) T ++ nin A2.ow v.Looks L) ((nin A3.ow (v.Txns.set (t - 1).toNat (Y6 tx g.toNat gi.Term)) T ++ nin A2.ow v.Looks L) ++ []) from B5) qz76 (E4 rfl (A8 rfl B0))
end Go.Proofs.YtcfkbhnpfjjmjaaGreat
namespace Go.M
open Go.AV
end Go.M
namespace Go.Proofs.YtcfkbhnpfjjmjaaGreat
open Go Go.AV Go.M
attribute [local irreducible] OpW OpA OpS AWP B9 J2 C9 OpE RetOk H0 I6 Le Ev F1 J8 V9 Int.tmod IntKind.wrap bandI
theorem l8 (l : List A9) (w : A9) (hl : l.length ≤ 4194303) (ha : adj wLess l = true) : B9 Tryz.prog 132 [AV.list 3 (l.map A9.cs), AV.agg w.cs] (AV.list 3 ((ins l w).map A9.cs)) := by
  rw [← BT4 ha]
  exact K2 (BH6 l w hl) fun v _ => J5 (List.mem_singleton.2 rfl) F4
end Go.Proofs.YtcfkbhnpfjjmjaaGreat
namespace Go.M
open Go.AV
theorem As3 (s : Str) : -999999 ≤ (l5N s).1 ∧ (l5N s).1 ≤ 999999 := by
  cases h : (l5N s).2 with
  | false => rw [l5N_fail s h]; decide
  | true => exact (l5N_back (s := s) (n := (l5N s).1) (by rw [← h])).2
theorem Az5 {buf : List A9} {got : List G5} {k : Str} {n : Nat} (hb : ∀ w ∈ buf, w.size ≤ n) (hg : ∀ g ∈ got, g.size ≤ n) : (E1 buf got k).1.length ≤ n := by
  unfold E1
  split
  · rename_i w hw
    have := hb w (List.mem_of_find?_eq_some hw)
    unfold A9.size at this; dsimp only; omega
  · split
    · rename_i g hg2
      have := hg g (List.mem_of_find?_eq_some hg2)
      unfold G5.size at this; dsimp only; omega
    · exact Nat.zero_le _
theorem AL1 {α : Type} {p : α → Bool} {l : List α} {i : Nat} {x : α} (h : l[i]? = some x) : (l.drop i).find? p = if p x = true then some x else (l.drop (i + 1)).find? p := by
  rw [drop_some h]
  by_cases hp : p x = true
  · rw [List.find?_cons_of_pos hp, if_pos hp]
  · rw [List.find?_cons_of_neg hp, if_neg hp]
end Go.M
namespace Go.Proofs.YtcfkbhnpfjjmjaaGreat
open Go Go.AV Go.M
attribute [local irreducible] OpW OpA OpS AWP B9 J2 C9 OpE RetOk H0 I6 Le Ev F1 J8 V9 Int.tmod Int.tdiv IntKind.wrap bandI
theorem Am6 (buf : List A9) (got : List G5) (k : Str) : B9 Tryz.prog 151 [AV.list 3 (buf.map A9.cs), AV.list 3 (got.map G5.cs), AV.str k] (AV.tup [AV.str (E1 buf got k).1, AV.bool (E1 buf got k).2.1, AV.bool (E1 buf got k).2.2]) := by
 refine B7 Tryz.func151 rfl Tryz.ntmps151 rfl ?_
 refine S1 (t := 0) rfl fun hlb => ?_
 try simp only [A5] at hlb
 refine S1 (t := 1) rfl fun hlg => ?_
 try simp only [A5] at hlg
 refine R2 ?_
 refine A4 rfl (D6 rfl (L5 (l := []) rfl)) ?_
 refine R11 ?_
 refine E2 [(1, _), (2, _), (13, _), (14, _)] _ (fun (i : Nat) => i ≤ buf.length ∧ buf.find? (fun w => w.Key == k) = (buf.drop i).find? (fun w => w.Key == k)) (fun (i : Nat) => []) (fun (i : Nat) => [(15, AV.int i)]) (fun (i : Nat) => buf.length - i) (0) ?_ (E7 ⟨rfl, rfl, rfl, rfl, rfl, trivial⟩) ?_
 ·exact ⟨Nat.zero_le _, rfl⟩
 intro i hinv
 refine R5 ?_
 refine A6 (A0 rfl) ?_ ?_
 ·intro h16
  have k16 := of_decide_eq_true h16; try simp only [A5] at k16
  have hlt : i < buf.length := At4
  obtain ⟨x, hx⟩ := get_some hlt
  refine R5 ?_
  refine A4 rfl (C7 rfl C0 E5 (A0 rfl) (A0 rfl) hx qz3) ?_
  refine R2 ?_
  intro b10
  refine R9 ?_
  refine A6 (A0 rfl) ?_ ?_
  ·intro h22
   have he : E1 buf got k = (x.Val, !x.Gone, true) := (by unfold E1; rw [hinv.2, AL1 hx, if_pos h22])
   rw [he]
   refine R12 ?_
   exact U2 rfl D3 (B8 (A8 rfl B0) (B8 (A8 rfl B0) (B8 (A8 rfl B0) G6)))
  intro h22
  refine R5 ?_
  refine E9 i (i + 1) ?_ ?_ (O4 1 ⟨rfl, rfl, rfl, rfl, rfl, trivial⟩)
  ·exact ⟨by omega, by rw [hinv.2, AL1 hx, if_neg (by rw [h22]; decide)]⟩
  omega
 intro h16
 have k16 := of_decide_eq_false h16; try simp only [A5] at k16
 have hge : buf.length ≤ i := At4
 have hnb : buf.find? (fun w => w.Key == k) = none := Af6
 refine R9 ?_
 refine E2 [(2, _), (29, _), (30, _)] _ (fun (j : Nat) => j ≤ got.length ∧ got.find? (fun g => g.Key == k) = (got.drop j).find? (fun g => g.Key == k)) (fun (j : Nat) => []) (fun (j : Nat) => [(31, AV.int j)]) (fun (j : Nat) => got.length - j) (0) ?_ (E7 ⟨rfl, rfl, rfl, rfl, trivial⟩) ?_
 ·exact ⟨Nat.zero_le _, rfl⟩
 intro j hinv
 refine R5 ?_
 refine A6 (A0 rfl) ?_ ?_
 ·intro h32
  have k32 := of_decide_eq_true h32; try simp only [A5] at k32
  have hlt1 : j < got.length := (by simpa using h32)
  obtain ⟨y, hy⟩ := get_some hlt1
  refine R5 ?_
  refine A4 rfl (C7 rfl J3 N5 (A0 rfl) (A0 rfl) hy qz3) ?_
  refine R2 ?_
  intro b12
  refine R9 ?_
  refine A6 (A0 rfl) ?_ ?_
  ·intro h38
   have he : E1 buf got k = (y.Val, y.There, true) := (by unfold E1; rw [hnb, hinv.2, AL1 hy, if_pos h38])
   rw [he]
   refine R11 ?_
   exact U2 rfl D3 (B8 (A8 rfl B0) (B8 (A8 rfl B0) (B8 (A8 rfl B0) G6)))
  intro h38
  refine R5 ?_
  refine E9 j (j + 1) ?_ ?_ (O4 1 ⟨rfl, rfl, rfl, rfl, trivial⟩)
  ·exact ⟨by omega, by rw [hinv.2, AL1 hy, if_neg (by rw [h38]; decide)]⟩
  omega
 intro h32
 have k32 := of_decide_eq_false h32; try simp only [A5] at k32
 have hge1 : got.length ≤ j := (by simpa using h32)
 have he : E1 buf got k = ([], false, false) := (by unfold E1; rw [hnb, hinv.2, List.drop_eq_nil_of_le hge1]; rfl)
 rw [he]
 refine R3 ?_
 refine A4 rfl (D6 rfl (L5 (l := []) rfl)) ?_
 refine R4 ?_
 exact U2 rfl D3 (B8 (A8 rfl B0) (B8 (A8 rfl B0) (B8 (A8 rfl B0) G6)))
theorem As4 (o : TOp) (val : Str) (there : Bool) (hv : val.length ≤ 1048576) (hb : -1000000 ≤ o.By ∧ o.By ≤ 1000000) : B9 Tryz.prog 152 [AV.agg o.cs, AV.str val, AV.bool there] (AV.bool (l9 o val there)) := by
 have hr := As3 val
 refine B7 Tryz.func152 rfl Tryz.ntmps152 rfl ?_
 refine R3 ?_
 intro b3
 refine R5 ?_
 refine A4 rfl (B2 rfl Tryz.call153 rfl (Ad0 val hv) (A1 (A0 rfl) A7)) ?_
 refine R18 ?_
 refine A6 (A0 rfl) ?_ ?_
 ·intro h16
  have k16 := D1 h16; try simp only [A5] at k16
  have he : l9 o val there = (if there = true then !(l5N val).2 || !within ((l5N val).1 + o.By) (-999999) 999999 else false) := (by unfold l9; rw [if_pos k16])
  rw [he]
  refine R6 ?_
  refine A6 (A0 rfl) ?_ ?_
  ·intro h19
   rw [if_neg (by rw [show there = false by simpa using h19]; decide)]
   refine R5 ?_
   exact D4 rfl (A8 rfl B0)
  intro h19
  rw [if_pos (show there = true by simpa using h19)]
  refine R10 ?_
  refine U1 rfl (fun hc => B2 rfl Tryz.call30 rfl (M9 _ _ _) (A1 (B1 rfl hc) (A1 D8 (A1 D8 A7)))) ?_
  refine R5 ?_
  exact D4 rfl (A8 rfl B0)
 intro h16
 have k16 := D5 h16; try simp only [A5] at k16
 refine R5 ?_
 refine A6 (A0 rfl) ?_ ?_
 ·intro h30
  have k30 := D1 h30; try simp only [A5] at k30
  have he : l9 o val there = ((!there || !(l5N val).2) || decide ((l5N val).1 < o.By)) := (by unfold l9; rw [if_neg k16, if_pos k30])
  rw [he]
  refine R17 ?_
  exact D4 rfl (A8 rfl B0)
 intro h30
 have k30 := D5 h30; try simp only [A5] at k30
 refine R5 ?_
 refine A6 (A0 rfl) ?_ ?_
 ·intro h44
  have k44 := D1 h44; try simp only [A5] at k44
  have he : l9 o val there = there := (by unfold l9; rw [if_neg k16, if_neg k30, if_pos k44])
  rw [he]
  refine R6 ?_
  exact D4 rfl (A8 rfl B0)
 intro h44
 have k44 := D5 h44; try simp only [A5] at k44
 refine R5 ?_
 refine A6 (A0 rfl) ?_ ?_
 ·intro h47
  have k47 := D1 h47; try simp only [A5] at k47
  have he : l9 o val there = (!there || (val != o.Val)) := (by unfold l9; rw [if_neg k16, if_neg k30, if_neg k44, if_pos k47])
  rw [he]
  refine R13 ?_
  exact D4 rfl (A8 rfl B0)
 intro h47
 have k47 := D5 h47; try simp only [A5] at k47
 have he : l9 o val there = false := (by unfold l9; rw [if_neg k16, if_neg k30, if_neg k44, if_neg k47])
 rw [he]
 refine R6 ?_
 exact D4 rfl (A8 rfl B0)
theorem AN3 (n : Int) (h : -999999 ≤ n ∧ n ≤ 999999) : B9 Tryz.prog 154 [AV.int n] (AV.str (AA6 n)) := by
 refine B7 Tryz.func154 rfl Tryz.ntmps154 rfl ?_
 refine R2 ?_
 refine A4 rfl (D6 rfl (L5 (l := []) rfl)) ?_
 refine R7 ?_
 refine A6 (A0 rfl) ?_ ?_
 ·intro h4
  have k4 := of_decide_eq_true h4; try simp only [A5] at k4
  obtain ⟨m, hm⟩ : ∃ m : Nat, n = -(m : Int) := ⟨n.natAbs, by omega⟩
  subst hm
  have hdl := AX1 (k := 6) (n := m) qz8 D3
  have hneg : IntKind.i64.wrap (0 - -(m : Int)) = (m : Int) := by (rw [show 0 - -(m : Int) = m by omega]; exact AV8 qz8)
  rw [Aj3 qz8]
  refine R3 ?_
  refine A4 rfl (w_neg rfl (A0 rfl)) ?_
  rw [hneg]
  refine A4 rfl (B2 rfl Tryz.call172 rfl (BI7 m qz8) (A1 (A0 rfl) A7)) ?_
  refine A4 rfl (w_cat rfl (L5 (l := [45]) rfl) (A0 rfl) qz178) ?_
  refine R3 ?_
  exact D4 rfl (A8 rfl B0)
 intro h4
 have k4 := of_decide_eq_false h4; try simp only [A5] at k4
 obtain ⟨m, hm⟩ : ∃ m : Nat, n = (m : Int) := ⟨n.toNat, by omega⟩
 subst hm
 rw [BC6]
 refine R4 ?_
 refine A4 rfl (B2 rfl Tryz.call172 rfl (BI7 m qz8) (A1 (A0 rfl) A7)) ?_
 refine R3 ?_
 exact D4 rfl (A8 rfl B0)
theorem Br9 (l : List TOp) (got : List G5) (hl : l.length ≤ 1000) (ho : ∀ o ∈ l, AG5 1000 o) (hgot : ∀ g ∈ got, g.size ≤ 1000) : B9 Tryz.prog 129 [AV.list 4 (l.map TOp.cs), AV.list 3 (got.map G5.cs)] (AV.tup [AV.int (N0 l got).1, AV.str (N0 l got).2.1, AV.list 3 ((N0 l got).2.2.map A9.cs)]) := by
 have hll : l.length ≤ 1000 := by omega
 refine B7 Tryz.func129 rfl Tryz.ntmps129 rfl ?_
 refine R3 ?_
 refine A4 rfl (D6 rfl (L5 (l := []) rfl)) ?_
 refine A4 rfl (D6 rfl (O6 (sz := 3))) ?_
 refine R3 ?_
 refine A4 rfl (D6 rfl (O6 (sz := 3))) ?_
 refine R9 ?_
 refine J0 [(1, _), (15, _), (16, _)] _ (fun (i : Nat) (buf : List A9) => i ≤ l.length ∧ N0 l got = stepFrom got buf (l.drop i) ∧ adj wLess buf = true ∧ (∀ w ∈ buf, w.size ≤ 1000) ∧ buf.length ≤ i) (fun (i : Nat) (buf : List A9) => []) (fun (i : Nat) (buf : List A9) => [(7, AV.list 3 (buf.map A9.cs)), (17, AV.int i)]) (fun (i : Nat) (buf : List A9) => l.length - i) (0) ([]) ?_ (E7 ⟨rfl, rfl, rfl, rfl, rfl, trivial⟩) ?_
 ·exact ⟨Nat.zero_le _, rfl, rfl, fun w hw => absurd hw List.not_mem_nil, Nat.le_refl _⟩
 intro i buf hinv
 refine R5 ?_
 refine A6 (A0 rfl) ?_ ?_
 ·intro h18
  have k18 := of_decide_eq_true h18; try simp only [A5] at k18
  have hlt : i < l.length := (by simpa using h18)
  obtain ⟨x, hx⟩ := get_some hlt
  have hso := ho x (C4 hx)
  have hsv := Az5 (k := x.Key) hinv.2.2.2.1 hgot
  have hbl := hinv.2.2.2.2
  refine R5 ?_
  refine A4 rfl (C7 rfl P3 S7 (A0 rfl) (A0 rfl) hx qz3) ?_
  refine R2 ?_
  intro b9
  refine R8 ?_
  refine A4 rfl (B2 rfl Tryz.call151 rfl (Am6 buf got x.Key) (A1 (A0 rfl) (A1 (A0 rfl) (A1 (A0 rfl) A7)))) ?_
  refine R24 ?_
  refine A6 (A0 rfl) ?_ ?_
  ·intro h41
   have he : N0 l got = (1, x.Key, []) := qz164
   rw [he]
   refine R6 ?_
   refine C3 rfl rfl (D6 rfl (O6 (sz := 3))) ?_
   refine R2 ?_
   exact U2 rfl D3 (B8 (A8 rfl B0) (B8 (A8 rfl B0) (B8 (A8 rfl B0) G6)))
  intro h41
  refine R7 ?_
  refine A4 rfl (B2 rfl Tryz.call152 rfl (As4 x _ _ qz8 (by have h9 := hso.by'; omega)) (A1 (A0 rfl) (A1 (A0 rfl) (A1 (A0 rfl) A7)))) ?_
  refine R1 ?_
  refine A6 (A0 rfl) ?_ ?_
  ·intro h47
   have he : N0 l got = (2, [], []) := qz138
   rw [he]
   refine R3 ?_
   refine A4 rfl (D6 rfl (L5 (l := []) rfl)) ?_
   refine A4 rfl (D6 rfl (O6 (sz := 3))) ?_
   refine R2 ?_
   exact U2 rfl D3 (B8 (A8 rfl B0) (B8 (A8 rfl B0) (B8 (A8 rfl B0) G6)))
  intro h47
  have hgv : l9 x (E1 buf got x.Key).1 (E1 buf got x.Key).2.1 = false := h47
  have hnx : N0 l got = stepFrom got (opPut x (E1 buf got x.Key).1 (E1 buf got x.Key).2.1 buf) (l.drop (i + 1)) := qz123
  refine R12 ?_
  refine A6 (A0 rfl) ?_ ?_
  ·intro h50
   have k50 := D1 h50; try simp only [A5] at k50
   have hop : opPut x (E1 buf got x.Key).1 (E1 buf got x.Key).2.1 buf = ins buf ⟨x.Key, x.Val, false⟩ := (by unfold opPut; rw [if_pos k50])
   refine R7 ?_
   refine A4 rfl (B2 rfl Tryz.call132 rfl (l8 buf ⟨x.Key, x.Val, false⟩ qz8 hinv.2.2.1) (A1 (A0 rfl) (A1 (A0 rfl) A7))) ?_
   refine R6 ?_
   refine G4 i buf (i + 1) (opPut x (E1 buf got x.Key).1 (E1 buf got x.Key).2.1 buf) ?_ ?_ (O4 1 ⟨AP9, rfl, rfl, rfl, rfl, trivial⟩)
   ·exact ⟨by omega, hnx, k6 hinv.2.2.1, l5 hso.size D3 hso.by' (.inl hso.key) hgv hinv.2.2.2.1, by have h9 := l4 (o := x) (v := (E1 buf got x.Key).1) (t := (E1 buf got x.Key).2.1) (buf := buf); omega⟩
   omega
  intro h50
  have k50 := D5 h50; try simp only [A5] at k50
  refine R5 ?_
  refine A6 (A0 rfl) ?_ ?_
  ·intro h59
   have k59 := D1 h59; try simp only [A5] at k59
   have hop : opPut x (E1 buf got x.Key).1 (E1 buf got x.Key).2.1 buf = ins buf ⟨x.Key, [], true⟩ := (by unfold opPut; rw [if_neg k50, if_pos k59])
   refine R5 ?_
   refine A4 rfl (B2 rfl Tryz.call132 rfl (l8 buf ⟨x.Key, [], true⟩ qz8 hinv.2.2.1) (A1 (A0 rfl) (A1 (A0 rfl) A7))) ?_
   refine R6 ?_
   refine G4 i buf (i + 1) (opPut x (E1 buf got x.Key).1 (E1 buf got x.Key).2.1 buf) ?_ ?_ (O4 1 ⟨AP9, rfl, rfl, rfl, rfl, trivial⟩)
   ·exact ⟨by omega, hnx, k6 hinv.2.2.1, l5 hso.size D3 hso.by' (.inl hso.key) hgv hinv.2.2.2.1, by have h9 := l4 (o := x) (v := (E1 buf got x.Key).1) (t := (E1 buf got x.Key).2.1) (buf := buf); omega⟩
   omega
  intro h59
  have k59 := D5 h59; try simp only [A5] at k59
  refine R5 ?_
  refine A6 (A0 rfl) ?_ ?_
  ·intro h66
   have k66 := D1 h66; try simp only [A5] at k66
   have har := Aj5 k66 hso.by' hgv
   have hnr := As3 (E1 buf got x.Key).1
   refine R3 ?_
   refine A4 rfl (B2 rfl Tryz.call153 rfl (Ad0 _ qz8) (A1 (A0 rfl) A7)) ?_
   refine R12 ?_
   refine A6 (A0 rfl) ?_ ?_
   ·intro h74
    have hth : (E1 buf got x.Key).2.1 = false := (by simpa using h74)
    have hadd : addR x (E1 buf got x.Key).1 (E1 buf got x.Key).2.1 = 0 + x.By := Bb8
    rw [hadd] at har
    have hop : opPut x (E1 buf got x.Key).1 (E1 buf got x.Key).2.1 buf = ins buf ⟨x.Key, AA6 (0 + x.By), false⟩ := Bc6
    refine R11 ?_
    refine C3 rfl rfl (B2 rfl Tryz.call154 rfl (AN3 _ qz8) (A1 (A0 rfl) A7)) ?_
    refine R1 ?_
    refine C3 rfl rfl (B2 rfl Tryz.call132 rfl (l8 buf ⟨x.Key, AA6 _, false⟩ qz8 hinv.2.2.1) (A1 (A0 rfl) (A1 (A0 rfl) A7))) ?_
    refine R6 ?_
    refine G4 i buf (i + 1) (opPut x (E1 buf got x.Key).1 (E1 buf got x.Key).2.1 buf) ?_ ?_ (O4 1 ⟨AP9, rfl, rfl, rfl, rfl, trivial⟩)
    ·exact ⟨by omega, hnx, k6 hinv.2.2.1, l5 hso.size D3 hso.by' (.inl hso.key) hgv hinv.2.2.2.1, by have h9 := l4 (o := x) (v := (E1 buf got x.Key).1) (t := (E1 buf got x.Key).2.1) (buf := buf); omega⟩
    omega
   intro h74
   have hth : (E1 buf got x.Key).2.1 = true := (by simpa using h74)
   have hadd : addR x (E1 buf got x.Key).1 (E1 buf got x.Key).2.1 = (l5N (E1 buf got x.Key).1).1 + x.By := Bb8
   rw [hadd] at har
   have hop : opPut x (E1 buf got x.Key).1 (E1 buf got x.Key).2.1 buf = ins buf ⟨x.Key, AA6 ((l5N (E1 buf got x.Key).1).1 + x.By), false⟩ := Bc6
   refine R9 ?_
   refine C3 rfl rfl (B2 rfl Tryz.call154 rfl (AN3 _ qz8) (A1 (A0 rfl) A7)) ?_
   refine R1 ?_
   refine C3 rfl rfl (B2 rfl Tryz.call132 rfl (l8 buf ⟨x.Key, AA6 _, false⟩ qz8 hinv.2.2.1) (A1 (A0 rfl) (A1 (A0 rfl) A7))) ?_
   refine R6 ?_
   refine G4 i buf (i + 1) (opPut x (E1 buf got x.Key).1 (E1 buf got x.Key).2.1 buf) ?_ ?_ (O4 1 ⟨AP9, rfl, rfl, rfl, rfl, trivial⟩)
   ·exact ⟨by omega, hnx, k6 hinv.2.2.1, l5 hso.size D3 hso.by' (.inl hso.key) hgv hinv.2.2.2.1, by have h9 := l4 (o := x) (v := (E1 buf got x.Key).1) (t := (E1 buf got x.Key).2.1) (buf := buf); omega⟩
   omega
  intro h66
  have k66 := D5 h66; try simp only [A5] at k66
  have hop : opPut x (E1 buf got x.Key).1 (E1 buf got x.Key).2.1 buf = buf := (by unfold opPut; rw [if_neg k50, if_neg k59, if_neg k66])
  refine R5 ?_
  refine G4 i buf (i + 1) (opPut x (E1 buf got x.Key).1 (E1 buf got x.Key).2.1 buf) ?_ ?_ (O4 1 ⟨AP9, rfl, rfl, rfl, rfl, trivial⟩)
  ·exact ⟨by omega, hnx, k6 hinv.2.2.1, l5 hso.size D3 hso.by' (.inl hso.key) hgv hinv.2.2.2.1, by have h9 := l4 (o := x) (v := (E1 buf got x.Key).1) (t := (E1 buf got x.Key).2.1) (buf := buf); omega⟩
  omega
 intro h18
 have k18 := of_decide_eq_false h18; try simp only [A5] at k18
 have hge : l.length ≤ i := (by simpa using h18)
 have he : N0 l got = (3, [], buf) := qz176
 rw [he]
 refine R5 ?_
 refine A4 rfl (D6 rfl (L5 (l := []) rfl)) ?_
 refine R3 ?_
 exact U2 rfl D3 (B8 (A8 rfl B0) (B8 (A8 rfl B0) (B8 (A8 rfl B0) G6)))
theorem Ad2 (l : List TOp) (v : Value) (got : List G5) (hl : l.length ≤ 1000) (ho : ∀ o ∈ l, AG5 1000 o) (hgot : ∀ g ∈ got, g.size ≤ 1000) : C9 Tryz.prog 129 [AV.list 4 (l.map TOp.cs), AV.is v] [.arr v 45 3 (got.map G5.cs)] (fun _ : Unit => True) (fun _ => [.arr v 45 3 (got.map G5.cs)]) (fun _ => AV.tup [AV.int (N0 l got).1, AV.str (N0 l got).2.1, AV.list 3 ((N0 l got).2.2.map A9.cs)]) := by
 have hll : l.length ≤ 1000 := by omega
 refine C6 Tryz.func129 rfl Tryz.ntmps129 rfl ?_
 refine R3 ?_
 refine A4 rfl (D6 rfl (L5 (l := []) rfl)) ?_
 refine A4 rfl (D6 rfl (O6 (sz := 3))) ?_
 refine R3 ?_
 refine A4 rfl (D6 rfl (O6 (sz := 3))) ?_
 refine R9 ?_
 refine J0 [(1, _), (15, _), (16, _)] _ (fun (i : Nat) (buf : List A9) => i ≤ l.length ∧ N0 l got = stepFrom got buf (l.drop i) ∧ adj wLess buf = true ∧ (∀ w ∈ buf, w.size ≤ 1000) ∧ buf.length ≤ i) (fun (i : Nat) (buf : List A9) => []) (fun (i : Nat) (buf : List A9) => [(7, AV.list 3 (buf.map A9.cs)), (17, AV.int i)]) (fun (i : Nat) (buf : List A9) => l.length - i) (0) ([]) ?_ (E7 ⟨rfl, rfl, rfl, rfl, rfl, trivial⟩) ?_
 ·exact ⟨Nat.zero_le _, rfl, rfl, fun w hw => absurd hw List.not_mem_nil, Nat.le_refl _⟩
 intro i buf hinv
 refine R5 ?_
 refine A6 (A0 rfl) ?_ ?_
 ·intro h18
  have k18 := of_decide_eq_true h18; try simp only [A5] at k18
  have hlt : i < l.length := (by simpa using h18)
  obtain ⟨x, hx⟩ := get_some hlt
  have hso := ho x (C4 hx)
  have hsv := Az5 (k := x.Key) hinv.2.2.2.1 hgot
  have hbl := hinv.2.2.2.2
  refine R5 ?_
  refine A4 rfl (C7 rfl P3 S7 (A0 rfl) (A0 rfl) hx qz3) ?_
  refine R2 ?_
  intro b9
  refine R8 ?_
  refine A4 rfl (AK1 rfl Tryz.call151 rfl (Am6 buf got x.Key) (BB1 (D2 (W7 _) (D2 (X3 _) (D2 (X3 _) M2)))) (T0 (evb (A0 rfl)) (T0 (AV0 1 (A0 rfl) rfl) (T0 (evb (A0 rfl)) f8)))) ?_
  refine R24 ?_
  refine A6 (A0 rfl) ?_ ?_
  ·intro h41
   have he : N0 l got = (1, x.Key, []) := qz164
   rw [he]
   refine R6 ?_
   refine C3 rfl rfl (D6 rfl (O6 (sz := 3))) ?_
   refine R2 ?_
   exact I0 [1] () (trivial) rfl B0 (U3 rfl D3 (B8 (A8 rfl B0) (B8 (A8 rfl B0) (B8 (A8 rfl B0) G6))))
  intro h41
  refine R7 ?_
  refine A4 rfl (B2 rfl Tryz.call152 rfl (As4 x _ _ qz8 (by have h9 := hso.by'; omega)) (A1 (A0 rfl) (A1 (A0 rfl) (A1 (A0 rfl) A7)))) ?_
  refine R1 ?_
  refine A6 (A0 rfl) ?_ ?_
  ·intro h47
   have he : N0 l got = (2, [], []) := qz138
   rw [he]
   refine R3 ?_
   refine A4 rfl (D6 rfl (L5 (l := []) rfl)) ?_
   refine A4 rfl (D6 rfl (O6 (sz := 3))) ?_
   refine R2 ?_
   exact I0 [1] () (trivial) rfl B0 (U3 rfl D3 (B8 (A8 rfl B0) (B8 (A8 rfl B0) (B8 (A8 rfl B0) G6))))
  intro h47
  have hgv : l9 x (E1 buf got x.Key).1 (E1 buf got x.Key).2.1 = false := h47
  have hnx : N0 l got = stepFrom got (opPut x (E1 buf got x.Key).1 (E1 buf got x.Key).2.1 buf) (l.drop (i + 1)) := qz123
  refine R12 ?_
  refine A6 (A0 rfl) ?_ ?_
  ·intro h50
   have k50 := D1 h50; try simp only [A5] at k50
   have hop : opPut x (E1 buf got x.Key).1 (E1 buf got x.Key).2.1 buf = ins buf ⟨x.Key, x.Val, false⟩ := (by unfold opPut; rw [if_pos k50])
   refine R7 ?_
   refine A4 rfl (B2 rfl Tryz.call132 rfl (l8 buf ⟨x.Key, x.Val, false⟩ qz8 hinv.2.2.1) (A1 (A0 rfl) (A1 (A0 rfl) A7))) ?_
   refine R6 ?_
   refine G4 i buf (i + 1) (opPut x (E1 buf got x.Key).1 (E1 buf got x.Key).2.1 buf) ?_ ?_ (O4 1 ⟨AP9, rfl, rfl, rfl, rfl, trivial⟩)
   ·exact ⟨by omega, hnx, k6 hinv.2.2.1, l5 hso.size D3 hso.by' (.inl hso.key) hgv hinv.2.2.2.1, by have h9 := l4 (o := x) (v := (E1 buf got x.Key).1) (t := (E1 buf got x.Key).2.1) (buf := buf); omega⟩
   omega
  intro h50
  have k50 := D5 h50; try simp only [A5] at k50
  refine R5 ?_
  refine A6 (A0 rfl) ?_ ?_
  ·intro h59
   have k59 := D1 h59; try simp only [A5] at k59
   have hop : opPut x (E1 buf got x.Key).1 (E1 buf got x.Key).2.1 buf = ins buf ⟨x.Key, [], true⟩ := (by unfold opPut; rw [if_neg k50, if_pos k59])
   refine R5 ?_
   refine A4 rfl (B2 rfl Tryz.call132 rfl (l8 buf ⟨x.Key, [], true⟩ qz8 hinv.2.2.1) (A1 (A0 rfl) (A1 (A0 rfl) A7))) ?_
   refine R6 ?_
   refine G4 i buf (i + 1) (opPut x (E1 buf got x.Key).1 (E1 buf got x.Key).2.1 buf) ?_ ?_ (O4 1 ⟨AP9, rfl, rfl, rfl, rfl, trivial⟩)
   ·exact ⟨by omega, hnx, k6 hinv.2.2.1, l5 hso.size D3 hso.by' (.inl hso.key) hgv hinv.2.2.2.1, by have h9 := l4 (o := x) (v := (E1 buf got x.Key).1) (t := (E1 buf got x.Key).2.1) (buf := buf); omega⟩
   omega
  intro h59
  have k59 := D5 h59; try simp only [A5] at k59
  refine R5 ?_
  refine A6 (A0 rfl) ?_ ?_
  ·intro h66
   have k66 := D1 h66; try simp only [A5] at k66
   have har := Aj5 k66 hso.by' hgv
   have hnr := As3 (E1 buf got x.Key).1
   refine R3 ?_
   refine A4 rfl (B2 rfl Tryz.call153 rfl (Ad0 _ qz8) (A1 (A0 rfl) A7)) ?_
   refine R12 ?_
   refine A6 (A0 rfl) ?_ ?_
   ·intro h74
    have hth : (E1 buf got x.Key).2.1 = false := (by simpa using h74)
    have hadd : addR x (E1 buf got x.Key).1 (E1 buf got x.Key).2.1 = 0 + x.By := Bb8
    rw [hadd] at har
    have hop : opPut x (E1 buf got x.Key).1 (E1 buf got x.Key).2.1 buf = ins buf ⟨x.Key, AA6 (0 + x.By), false⟩ := Bc6
    refine R11 ?_
    refine C3 rfl rfl (B2 rfl Tryz.call154 rfl (AN3 _ qz8) (A1 (A0 rfl) A7)) ?_
    refine R1 ?_
    refine C3 rfl rfl (B2 rfl Tryz.call132 rfl (l8 buf ⟨x.Key, AA6 _, false⟩ qz8 hinv.2.2.1) (A1 (A0 rfl) (A1 (A0 rfl) A7))) ?_
    refine R6 ?_
    refine G4 i buf (i + 1) (opPut x (E1 buf got x.Key).1 (E1 buf got x.Key).2.1 buf) ?_ ?_ (O4 1 ⟨AP9, rfl, rfl, rfl, rfl, trivial⟩)
    ·exact ⟨by omega, hnx, k6 hinv.2.2.1, l5 hso.size D3 hso.by' (.inl hso.key) hgv hinv.2.2.2.1, by have h9 := l4 (o := x) (v := (E1 buf got x.Key).1) (t := (E1 buf got x.Key).2.1) (buf := buf); omega⟩
    omega
   intro h74
   have hth : (E1 buf got x.Key).2.1 = true := (by simpa using h74)
   have hadd : addR x (E1 buf got x.Key).1 (E1 buf got x.Key).2.1 = (l5N (E1 buf got x.Key).1).1 + x.By := Bb8
   rw [hadd] at har
   have hop : opPut x (E1 buf got x.Key).1 (E1 buf got x.Key).2.1 buf = ins buf ⟨x.Key, AA6 ((l5N (E1 buf got x.Key).1).1 + x.By), false⟩ := Bc6
   refine R9 ?_
   refine C3 rfl rfl (B2 rfl Tryz.call154 rfl (AN3 _ qz8) (A1 (A0 rfl) A7)) ?_
   refine R1 ?_
   refine C3 rfl rfl (B2 rfl Tryz.call132 rfl (l8 buf ⟨x.Key, AA6 _, false⟩ qz8 hinv.2.2.1) (A1 (A0 rfl) (A1 (A0 rfl) A7))) ?_
   refine R6 ?_
   refine G4 i buf (i + 1) (opPut x (E1 buf got x.Key).1 (E1 buf got x.Key).2.1 buf) ?_ ?_ (O4 1 ⟨AP9, rfl, rfl, rfl, rfl, trivial⟩)
   ·exact ⟨by omega, hnx, k6 hinv.2.2.1, l5 hso.size D3 hso.by' (.inl hso.key) hgv hinv.2.2.2.1, by have h9 := l4 (o := x) (v := (E1 buf got x.Key).1) (t := (E1 buf got x.Key).2.1) (buf := buf); omega⟩
   omega
  intro h66
  have k66 := D5 h66; try simp only [A5] at k66
  have hop : opPut x (E1 buf got x.Key).1 (E1 buf got x.Key).2.1 buf = buf := (by unfold opPut; rw [if_neg k50, if_neg k59, if_neg k66])
  refine R5 ?_
  refine G4 i buf (i + 1) (opPut x (E1 buf got x.Key).1 (E1 buf got x.Key).2.1 buf) ?_ ?_ (O4 1 ⟨AP9, rfl, rfl, rfl, rfl, trivial⟩)
  ·exact ⟨by omega, hnx, k6 hinv.2.2.1, l5 hso.size D3 hso.by' (.inl hso.key) hgv hinv.2.2.2.1, by have h9 := l4 (o := x) (v := (E1 buf got x.Key).1) (t := (E1 buf got x.Key).2.1) (buf := buf); omega⟩
  omega
 intro h18
 have k18 := of_decide_eq_false h18; try simp only [A5] at k18
 have hge : l.length ≤ i := (by simpa using h18)
 have he : N0 l got = (3, [], buf) := qz176
 rw [he]
 refine R5 ?_
 refine A4 rfl (D6 rfl (L5 (l := []) rfl)) ?_
 refine R3 ?_
 exact I0 [0] () (trivial) rfl B0 (U3 rfl D3 (B8 (A8 rfl B0) (B8 (A8 rfl B0) (B8 (A8 rfl B0) G6))))
theorem Bs0 (rows : List A9) (k : Str) : B9 Tryz.prog 130 [AV.list 3 (rows.map A9.cs), AV.str k] (AV.agg (tell rows k).cs) := by
 refine B7 Tryz.func130 rfl Tryz.ntmps130 rfl ?_
 refine S1 (t := 0) rfl fun hlb => ?_
 try simp only [A5] at hlb
 refine R3 ?_
 intro b4
 refine R9 ?_
 refine E2 [(1, _), (4, _), (7, _), (8, _)] _ (fun (i : Nat) => i ≤ rows.length ∧ lookW rows k = (rows.drop i).find? (fun w => w.Key == k)) (fun (i : Nat) => []) (fun (i : Nat) => [(9, AV.int i)]) (fun (i : Nat) => rows.length - i) (0) ?_ (E7 ⟨rfl, rfl, rfl, rfl, rfl, trivial⟩) ?_
 ·exact ⟨Nat.zero_le _, rfl⟩
 intro i hinv
 refine R5 ?_
 refine A6 (A0 rfl) ?_ ?_
 ·intro h10
  have k10 := of_decide_eq_true h10; try simp only [A5] at k10
  have hlt : i < rows.length := AC5
  obtain ⟨x, hx⟩ := get_some hlt
  refine R5 ?_
  refine A4 rfl (C7 rfl C0 E5 (A0 rfl) (A0 rfl) hx qz3) ?_
  refine R2 ?_
  intro b6
  refine R9 ?_
  refine A6 (A0 rfl) ?_ ?_
  ·intro h16
   have he : tell rows k = ⟨k, x.Val, true⟩ := (by unfold tell; rw [hinv.2, AL1 hx, if_pos h16])
   rw [he]
   refine R9 ?_
   exact D4 rfl (H1 (ys := _) 1 rfl rfl AC0 N5 rfl)
  intro h16
  refine R5 ?_
  refine E9 i (i + 1) ?_ ?_ (O4 1 ⟨rfl, rfl, rfl, rfl, rfl, trivial⟩)
  ·exact ⟨by omega, by rw [hinv.2, AL1 hx, if_neg (by rw [h16]; decide)]⟩
  omega
 intro h10
 have k10 := of_decide_eq_false h10; try simp only [A5] at k10
 have hge : rows.length ≤ i := AC5
 have he : tell rows k = ⟨k, [], false⟩ := (by unfold tell; rw [hinv.2, List.drop_eq_nil_of_le hge]; rfl)
 rw [he]
 refine R8 ?_
 exact D4 rfl (H1 (ys := _) 0 rfl rfl AC0 N5 rfl)
end Go.Proofs.YtcfkbhnpfjjmjaaGreat
namespace Go.Proofs.YtcfkbhnpfjjmjaaGreat
open Go Go.AV Go.M
attribute [local irreducible] OpW OpA OpS AWP B9 J2 C9 OpE RetOk H0 I6 Le Ev F1 J8 V9 Int.tmod IntKind.wrap bandI
structure DealB (d : TDeal) : Prop where
  cuts : ∀ k ∈ d.Cuts, k.length ≤ 4611686018427387904
  clen : d.Cuts.length ≤ 1000000
  slen : d.States.length ≤ 10
  olen : d.Orders.length ≤ 1000000
  states : ∀ s ∈ d.States, s.size ≤ 100000
  orders : ∀ o ∈ d.Orders, o.size ≤ 300000
end Go.Proofs.YtcfkbhnpfjjmjaaGreat
namespace Go.M
open Go.AV
end Go.M
namespace Go.Proofs.YtcfkbhnpfjjmjaaGreat
open Go Go.AV Go.M
attribute [local irreducible] OpW OpA OpS AWP B9 J2 C9 OpE RetOk H0 I6 Le Ev F1 J8 V9 Int.tmod IntKind.wrap bandI
end Go.Proofs.YtcfkbhnpfjjmjaaGreat
namespace Go.M
open Go.AV
structure WD (l : List A9) : Prop where
  keys : (O8 l).Sublist keyS
  vals : ∀ w ∈ l, isStored w.Val w.Gone = true
theorem WD.len {l : List A9} (h : WD l) : l.length ≤ 8 := by
  have := h.keys.length_le
  rw [show (O8 l).length = l.length from A5 _] at this
  exact this
theorem BX8 {l : List Str} (h1 : ∀ k ∈ l, goodKey k = true) (h2 : n1 l) : areRising l = true := by
  unfold areRising
  rw [List.all_eq_true.2 h1, (m7 (p := Op.bytesLess) (fun _ _ _ => P5)).2 h2]; rfl
theorem WD.good {l : List A9} (h : WD l) : goodWrites l = true := by
  have hl := h.len
  unfold goodWrites
  rw [decide_eq_true qz8, BX8 (fun k hk => (CG7 (h.keys.subset hk)).1) (List.Pairwise.sublist h.keys keyS_srt), show (l.any fun w => !isStored w.Val w.Gone) = false from List.any_eq_false.2 fun w hw => by rw [h.vals w hw]; decide]; rfl
end Go.M
namespace Go.Proofs.YtcfkbhnpfjjmjaaGreat
open Go Go.AV Go.M
attribute [local irreducible] OpW OpA OpS AWP B9 J2 C9 OpE RetOk H0 I6 Le Ev F1 J8 V9 Int.tmod IntKind.wrap bandI
end Go.Proofs.YtcfkbhnpfjjmjaaGreat
namespace Go.M
open Go.AV
structure OI (n : Int) (l : List AH7) : Prop where
  good : ∀ o ∈ l, orderR o = true ∧ o.Txn < n
  nodup : (l.map AH7.Txn).Nodup
end Go.M
namespace Go.Proofs.YtcfkbhnpfjjmjaaGreat
open Go Go.AV Go.M
attribute [local irreducible] OpW OpA OpS AWP B9 J2 C9 OpE RetOk H0 I6 Le Ev F1 J8 V9 Int.tmod IntKind.wrap bandI
end Go.Proofs.YtcfkbhnpfjjmjaaGreat
namespace Go.M
open Go.AV
end Go.M
namespace Go.Proofs.YtcfkbhnpfjjmjaaGreat
open Go Go.AV Go.M
attribute [local irreducible] OpW OpA OpS AWP B9 J2 C9 OpE RetOk H0 I6 Le Ev F1 J8 V9 Int.tmod IntKind.wrap bandI
theorem w_natc {P : Program} {G : Nat → Prop} {n : Nat} {own : List Go.AV.Own} {o : Oper} {E : K5} {a : Int} (b : Nat) (h : OpW P G n own o E (AV.int a)) (e : a = (b : Int)) : OpW P G n own o E (AV.int (b : Int)) := e ▸ h
end Go.Proofs.YtcfkbhnpfjjmjaaGreat
namespace Go.M
open Go.AV
theorem AP0 {s : G2} (h : goodState s = true) : s.size ≤ 15000 := by
  have g := AB0.1 h
  have h1 := Ap0 g.cells
  have h2 := c4 (f := E3.size) (c := 400) (l := s.Held) fun k hk => AI3 (g.good k hk).1
  have h3 := g.hlen
  have h4 := g.tlen
  have h5 : s.Held.length * (400 + 1) ≤ 12 * 401 := Nat.mul_le_mul_right _ h3
  show sizeL C5.size s.Cells + sizeL E3.size s.Held + s.Told.length ≤ 15000
  omega
theorem CK6 {cuts ks : List Str} {p : Int} (h : p ∈ partsL cuts ks) : 0 ≤ p ∧ p ≤ cuts.length := by
  rcases ((Ad1 (cuts := cuts) (ks := ks) (a := []) List.Pairwise.nil).2 p).1 h with h | ⟨k, _, e⟩
  · cases h
  · have := Ak4 cuts k
    omega
theorem AX6 {α : Type} {f : α → Nat} {p : α → Bool} : ∀ {l : List α}, sizeL f (l.filter p) ≤ sizeL f l
  | [] => Nat.le_refl _
  | x :: l => by
    have ih := AX6 (f := f) (p := p) (l := l)
    cases hp : p x with
    | true => rw [List.filter_cons_of_pos hp, P7, P7]; omega
    | false => rw [List.filter_cons_of_neg (by rw [hp]; decide), P7]; omega
theorem AR0 {α : Type} {p : α → Bool} {l : List α} {i : Nat} {x : α} (h : l[i]? = some x) : (l.take (i + 1)).filter p = (l.take i).filter p ++ (if p x = true then [x] else []) := by
  rw [List.take_add_one, h, List.filter_append]
  cases hp : p x <;> simp [hp]
def inS (cuts : List Str) (part : Int) (k : Str) : Bool := ((partW cuts k : Int) == part)
end Go.M
namespace Go.Proofs.YtcfkbhnpfjjmjaaGreat
open Go Go.AV Go.M
structure DV (d : TDeal) : Prop where
  clen : d.Cuts.length ≤ 2
  ckey : ∀ k ∈ d.Cuts, k.length ≤ 64
  slen : d.States.length = d.Cuts.length + 1
  st : ∀ s ∈ d.States, s.size ≤ 15000
  os : ∀ o ∈ d.Orders, orderR o = true ∧ o.size ≤ 1000
  olen : d.Orders.length ≤ 4
theorem DV.b {d : TDeal} (v : DV d) : DealB d where
  cuts := fun k hk => Nat.le_trans (v.ckey k hk) D3
  clen := Nat.le_trans v.clen D3
  slen := by have := v.slen; have := v.clen; omega
  olen := Nat.le_trans v.olen D3
  states := fun s hs => Nat.le_trans (v.st s hs) D3
  orders := fun o ho => Nat.le_trans (v.os o ho).2 D3
attribute [local irreducible] OpW OpA OpS AWP B9 J2 C9 OpE RetOk H0 I6 Le Ev F1 J8 V9 Int.tmod IntKind.wrap bandI
theorem CD0 (cuts rs : List Str) (ws : List A9) (part : Int) (hr : rs.length ≤ 1000000) (hw : ws.length ≤ 1000000) : C9 Tryz.prog 248 [strs cuts, strs rs, AV.list 3 (ws.map A9.cs), AV.int part] [] (fun _ : Value × Value => True) (fun v => [.arr v.1 9 1 ((rs.filter (inS cuts part)).map fun t => [AV.str t]), .arr v.2 47 3 ((ws.filter fun w => inS cuts part w.Key).map A9.cs)]) (fun v => AV.tup [AV.is v.1, AV.is v.2]) := by
 have hrl : ∀ i, ((rs.take i).filter (inS cuts part)).length ≤ 1000000 := fun i => Nat.le_trans (List.length_filter_le _ _) At7
 have hwl : ∀ i, ((ws.take i).filter fun w => inS cuts part w.Key).length ≤ 1000000 := fun i => Nat.le_trans (List.length_filter_le _ _) At7
 refine C6 Tryz.func248 rfl Tryz.ntmps248 rfl ?_
 refine R2 ?_
 refine A4 rfl (D6 rfl G8) ?_
 refine A4 rfl (D6 rfl G8) ?_
 refine R3 ?_
 refine P1 9 1 rfl rfl rfl rfl G8 ?_
 intro v10
 refine R3 ?_
 refine P1 47 3 rfl rfl rfl rfl G8 ?_
 intro v11
 refine R9 ?_
 refine AWP.le (C1 [1, 0] rfl) ?_
 refine J0 [(0, _), (2, _), (3, _), (8, _), (9, _), (11, _), (16, _), (17, _)] _ (fun (i : Nat) (v : Value) => i ≤ rs.length) (fun (i : Nat) (v : Value) => [.arr v 9 1 (((rs.take i).filter (inS cuts part)).map fun t => [AV.str t]), .arr v11 47 3 []]) (fun (i : Nat) (v : Value) => [(10, AV.is v), (18, AV.int i)]) (fun (i : Nat) (v : Value) => rs.length - i) (0) (v10) ?_ (H7 B0 ⟨rfl, rfl, rfl, rfl, rfl, rfl, rfl, rfl, rfl, rfl, trivial⟩) ?_
 ·exact Nat.zero_le _
 intro i v hinv
 refine R5 ?_
 refine A6 (A0 rfl) ?_ ?_
 ·intro h19
  have k19 := of_decide_eq_true h19; try simp only [A5] at k19
  have hlt : i < rs.length := by (simpa using h19)
  obtain ⟨x, hx⟩ := get_some hlt
  have hri := hrl i
  refine R5 ?_
  refine A4 rfl (C7 rfl F9 K3 (A0 rfl) (A0 rfl) hx qz3) ?_
  refine R7 ?_
  refine A4 rfl (B2 rfl Tryz.call170 rfl (AE2 _ _) (A1 (A0 rfl) (A1 (A0 rfl) A7))) ?_
  refine R3 ?_
  refine A6 (A0 rfl) ?_ ?_
  ·intro h26
   have k26 := D1 h26; try simp only [A5] at k26
   refine R4 ?_
   refine F6 (by' := 16) 0 rfl rfl rfl rfl F9 Tryz.type9 rfl rfl rfl rfl rfl rfl (A0 rfl) (A0 rfl) rfl qz3 ?_
   intro v30_1
   refine R6 ?_
   refine G4 i v (i + 1) (v30_1) ?_ ?_ (Le.trans (C1 [0, 0] rfl) (H7 qz110 ⟨rfl, rfl, rfl, rfl, rfl, rfl, rfl, rfl, rfl, rfl, trivial⟩))
   ·exact qz8
   omega
  intro h26
  have k26 := D5 h26; try simp only [A5] at k26
  refine R5 ?_
  refine G4 i v (i + 1) (v) ?_ ?_ (Le.trans (C1 [0, 0] rfl) (H7 qz110 ⟨rfl, rfl, rfl, rfl, rfl, rfl, rfl, rfl, rfl, rfl, trivial⟩))
  ·exact qz8
  omega
 intro h19
 have k19 := of_decide_eq_false h19; try simp only [A5] at k19
 have hge : rs.length ≤ i := by (simpa using h19)
 rw [List.take_of_length_le hge]
 refine R9 ?_
 refine AWP.le (C1 [1, 0] rfl) ?_
 refine J0 [(0, _), (3, _), (8, _), (9, _), (10, _), (32, _), (33, _)] _ (fun (j : Nat) (u : Value) => j ≤ ws.length) (fun (j : Nat) (u : Value) => [.arr u 47 3 (((ws.take j).filter fun w => inS cuts part w.Key).map A9.cs), .arr v 9 1 ((rs.filter (inS cuts part)).map fun t => [AV.str t])]) (fun (j : Nat) (u : Value) => [(11, AV.is u), (34, AV.int j)]) (fun (j : Nat) (u : Value) => ws.length - j) (0) (v11) ?_ (H7 B0 ⟨rfl, rfl, rfl, rfl, rfl, rfl, rfl, rfl, rfl, trivial⟩) ?_
 ·exact Nat.zero_le _
 intro j u hinv
 refine R5 ?_
 refine A6 (A0 rfl) ?_ ?_
 ·intro h35
  have k35 := of_decide_eq_true h35; try simp only [A5] at k35
  have hltj : j < ws.length := by (simpa using h35)
  obtain ⟨y, hy⟩ := get_some hltj
  have hwj := hwl j
  refine R5 ?_
  refine A4 rfl (C7 rfl C0 E5 (A0 rfl) (A0 rfl) hy qz3) ?_
  refine R2 ?_
  intro b15
  refine R7 ?_
  refine A4 rfl (B2 rfl Tryz.call170 rfl (AE2 _ _) (A1 (A0 rfl) (A1 (A0 rfl) A7))) ?_
  refine R3 ?_
  refine A6 (A0 rfl) ?_ ?_
  ·intro h43
   have k43 := D1 h43; try simp only [A5] at k43
   refine R4 ?_
   refine F6 (by' := 40) 1 rfl rfl rfl rfl C0 Tryz.type47 rfl rfl rfl rfl rfl rfl (A0 rfl) (A0 rfl) rfl qz3 ?_
   intro v47_2
   refine R6 ?_
   refine G4 j u (j + 1) (v47_2) ?_ ?_ (Le.trans (C1 [0, 0, 0] rfl) (E0 1 qz106 ⟨rfl, rfl, rfl, rfl, rfl, rfl, rfl, rfl, rfl, trivial⟩))
   ·exact qz8
   omega
  intro h43
  have k43 := D5 h43; try simp only [A5] at k43
  refine R5 ?_
  refine G4 j u (j + 1) (u) ?_ ?_ (Le.trans (C1 [0, 0, 0] rfl) (E0 1 qz106 ⟨rfl, rfl, rfl, rfl, rfl, rfl, rfl, rfl, rfl, trivial⟩))
  ·exact qz8
  omega
 intro h35
 have k35 := of_decide_eq_false h35; try simp only [A5] at k35
 have hgej : ws.length ≤ j := by (simpa using h35)
 rw [List.take_of_length_le hgej]
 refine R9 ?_
 exact I0 [1, 0] (v, u) (trivial) rfl B0 (U3 rfl D3 (B8 (A8 rfl B0) (B8 (A8 rfl B0) G6)))
theorem CD1 (cuts rs : List Str) (ws : List A9) (part : Int) (hr : rs.length ≤ 1000000) (hw : ws.length ≤ 1000000) : B9 Tryz.prog 248 [strs cuts, strs rs, AV.list 3 (ws.map A9.cs), AV.int part] (AV.tup [strs (rs.filter (inS cuts part)), AV.list 3 ((ws.filter fun w => inS cuts part w.Key).map A9.cs)]) :=
  K2 (CD0 cuts rs ws part hr hw) fun v _ => u9 (D0 (J5 (C4 (i := 0) rfl) F4) (D0 (J5 (C4 (i := 1) rfl) F4) U9))
end Go.Proofs.YtcfkbhnpfjjmjaaGreat
namespace Go.M
open Go.AV
def readsR (got : List G5) : List Str := got.foldl (fun a g => putS a g.Key) []
theorem BX9 : ∀ {got : List G5} {a : List Str}, n1 a → n1 (got.foldl (fun a g => putS a g.Key) a)
  | [], a, h => h
  | g :: got, a, h => by rw [List.foldl_cons]; exact BX9 (AW6 h).1
theorem BY0 : ∀ {got : List G5} {a : List Str}, (got.foldl (fun a g => putS a g.Key) a).length ≤ a.length + got.length
  | [], a => Nat.le_refl _
  | g :: got, a => by rw [List.foldl_cons]; have h1 := BY0 (got := got) (a := putS a g.Key); have h2 := Ai8 g.Key a; rw [H4]; omega
theorem BJ4 (got : List G5) : n1 (readsR got) := BX9 List.Pairwise.nil
theorem AU5 (got : List G5) : (readsR got).length ≤ got.length := by have := BY0 (got := got) (a := []); simpa [readsR] using this
theorem BJ5 {got : List G5} {i : Nat} {g : G5} (h : got[i]? = some g) : readsR (got.take (i + 1)) = putS (readsR (got.take i)) g.Key := by
  unfold readsR
  rw [List.take_add_one, h, List.foldl_append]; rfl
def o8 (cuts : List Str) (t : A3) : List Int := partsL cuts (keysI (readsR t.Got ++ O8 (N0 t.Ops t.Got).2.2))
def AH9 (t : A3) : Bool := ((N0 t.Ops t.Got).1 == 3) && decide (0 < ((readsR t.Got).length : Int) + ((N0 t.Ops t.Got).2.2.length : Int))
structure SetB (t : A3) : Prop where
  len : t.Ops.length ≤ 1000
  ops : ∀ o ∈ t.Ops, AG5 1000 o
  got : t.Got.length ≤ 1000 ∧ ∀ g ∈ t.Got, g.size ≤ 1000
theorem At2.sb {n : Nat} {c : Int} {t : A3} (h : At2 n c t) : SetB t where
  len := by have h9 := h.ops.1; unfold goodOps at h9; rw [Bool.and_eq_true, decide_eq_true_eq] at h9; have := h9.1; omega
  ops := fun o ho => by have h9 := AF6 h.ops.1 o ho; exact ⟨Nat.le_trans h9.size D3, h9.by', h9.key⟩
  got := ⟨Nat.le_trans h.got.1 D3, fun g hg => Nat.le_trans (h.got.2 g hg) D3⟩
theorem BY1 {cuts : List Str} {t : A3} (h : AH9 t = true) : ∃ p, (o8 cuts t)[0]? = some p := by
  unfold AH9 at h
  simp only [Bool.and_eq_true, decide_eq_true_eq] at h
  have h0 := h.2
  have hk : ∃ k, k ∈ keysI (readsR t.Got ++ O8 (N0 t.Ops t.Got).2.2) := by
    cases hr : readsR t.Got with
    | cons k r => exact ⟨k, (AZ7 _ _).2 S5⟩
    | nil =>
      cases hw : (N0 t.Ops t.Got).2.2 with
      | cons w r => exact ⟨w.Key, (AZ7 _ _).2 (by simp [O8])⟩
      | nil => rw [hr, hw] at h0; simp at h0
  obtain ⟨k, hk⟩ := hk
  have h1 := ((Ad1 (cuts := cuts) (ks := keysI (readsR t.Got ++ O8 (N0 t.Ops t.Got).2.2)) (a := []) List.Pairwise.nil).2 (partW cuts k)).2 (.inr ⟨k, hk, rfl⟩)
  exact get_some (List.length_pos_of_mem h1)
theorem BQ3 {cuts : List Str} {t : A3} {p : Int} (h : p ∈ o8 cuts t) : 0 ≤ p ∧ p ≤ cuts.length := CK6 h
end Go.M
namespace Go.Proofs.YtcfkbhnpfjjmjaaGreat
open Go Go.AV Go.M
attribute [local irreducible] OpW OpA OpS AWP B9 J2 C9 OpE RetOk H0 I6 Le Ev F1 J8 V9 Int.tmod Int.tdiv IntKind.wrap bandI
theorem BY2 (cuts : List Str) (t : A3) (y : Value × Value) (hb : SetB t) : C9 Tryz.prog 128 [strs cuts, AV.agg (A3.ocs t y)] (A3.ow t y) (fun _ : Unit => True) (fun _ => A3.ow t y) (fun _ => AV.tup [strs (readsR t.Got), AV.list 3 ((N0 t.Ops t.Got).2.2.map A9.cs), ints (o8 cuts t), AV.bool (AH9 t)]) := by
 have hgl := hb.got.1
 have hrl := AU5 t.Got
 have hst := ran (got := t.Got) (n := 1000) D3 hb.ops
 have hwl : (N0 t.Ops t.Got).2.2.length ≤ 1000 := Nat.le_trans hst.len (by have := hb.len; omega)
 obtain ⟨S, hS⟩ : ∃ S, N0 t.Ops t.Got = S := ⟨_, rfl⟩
 have hstep := Ad2 t.Ops y.1 t.Got hb.len hb.ops hb.got.2
 have hbq : AH9 t = ((N0 t.Ops t.Got).1 == 3 && decide (0 < ((((readsR t.Got).map fun t => [AV.str t]).length : Nat) : Int) + ((((N0 t.Ops t.Got).2.2.map A9.cs).length : Nat) : Int))) := by unfold AH9; simp only [A5]
 rw [hbq]
 unfold o8
 rw [hS] at hstep hwl ⊢
 have hkl := AZ8 (readsR t.Got ++ O8 S.2.2)
 rw [G3, show (O8 S.2.2).length = S.2.2.length from A5 ..] at hkl
 refine C6 Tryz.func128 rfl Tryz.ntmps128 rfl ?_
 refine R3 ?_
 intro b3
 refine A4 rfl (D6 rfl G8) ?_
 refine A4 rfl (D6 rfl G8) ?_
 refine A4 rfl (D6 rfl G8) ?_
 refine R8 ?_
 refine F0 [1] rfl rfl rfl rfl Tryz.call129 rfl (hstep) (A1 (A0 rfl) (A1 (A0 rfl) A7)) rfl ?_
 intro x19 ok19
 refine R10 ?_
 refine P1 9 1 rfl rfl rfl rfl G8 ?_
 intro v11
 refine R10 ?_
 refine AWP.le (C1 [0, 0] rfl) ?_
 refine J0 [(0, _), (4, _), (5, _), (6, _), (7, _), (8, _), (10, _), (24, _), (25, _)] _ (fun (i : Nat) (v : Value) => i ≤ t.Got.length) (fun (i : Nat) (v : Value) => [.arr v 9 1 ((readsR (t.Got.take i)).map fun t => [AV.str t]), .arr y.1 45 3 (t.Got.map G5.cs)]) (fun (i : Nat) (v : Value) => [(11, AV.is v), (26, AV.int i)]) (fun (i : Nat) (v : Value) => t.Got.length - i) (0) (v11) ?_ (H7 B0 ⟨rfl, rfl, rfl, rfl, rfl, rfl, rfl, rfl, rfl, rfl, rfl, trivial⟩) ?_
 ·exact Nat.zero_le _
 intro i v hinv
 refine R5 ?_
 refine A6 (A0 rfl) ?_ ?_
 ·intro h27
  have k27 := of_decide_eq_true h27; try simp only [A5] at k27
  have hlt : i < t.Got.length := (by simpa using h27)
  obtain ⟨g, hg⟩ := get_some hlt
  have hrs := BJ4 (t.Got.take i)
  have hrn := AU5 (t.Got.take i)
  rw [G9] at hrn
  refine R5 ?_
  refine A4 rfl (E8 1 rfl J3 N5 (A0 rfl) rfl (A0 rfl) qz8 f6) ?_
  refine A4 rfl (W9 1 rfl (A0 rfl) rfl AC0 N5 (by first | exact (L9 hg) | exact B3 ((L9 hg)) | exact B3 (B3 ((L9 hg))) | exact B3 (B3 (B3 ((L9 hg)))) | exact B3 (B3 (B3 (B3 ((L9 hg))))) | exact B3 (B3 (B3 (B3 (B3 ((L9 hg))))))) D3) ?_
  refine R1 ?_
  intro b13
  refine R6 ?_
  refine F0 [1] rfl rfl rfl rfl Tryz.call148 rfl (AA1 v (readsR (t.Got.take i)) g.Key hrs qz8) (A1 (A0 rfl) (A1 (A0 rfl) A7)) rfl ?_
  intro x33 ok33
  refine R6 ?_
  refine G4 i v (i + 1) (x33) ?_ ?_ (Le.trans (C1 [1, 0, 0] rfl) (E0 1 (by (rw [BJ5 hg]; rfl)) ⟨rfl, rfl, rfl, rfl, rfl, rfl, rfl, rfl, rfl, rfl, rfl, trivial⟩))
  ·exact qz8
  omega
 intro h27
 have k27 := of_decide_eq_false h27; try simp only [A5] at k27
 have hge : t.Got.length ≤ i := (by simpa using h27)
 rw [List.take_of_length_le hge]
 refine R2 ?_
 refine AWP.le (g6 [0] 11 rfl rfl (J5 (C4 (i := 0) rfl) F4) (f9 0 rfl rfl (f9 2 rfl rfl O0))) ?_
 refine R6 ?_
 refine A4 rfl (B2 rfl Tryz.call150 rfl (Am3 (readsR t.Got) S.2.2 qz8 qz8) (A1 (A0 rfl) (A1 (A0 rfl) A7))) ?_
 refine A4 rfl (B2 rfl Tryz.call149 rfl (Am4 cuts _ qz8) (A1 (A0 rfl) (A1 (A0 rfl) A7))) ?_
 refine R16 ?_
 exact I0 [0, 1] () (trivial) rfl B0 (U3 rfl D3 (B8 (A8 rfl B0) (B8 (A8 rfl B0) (B8 (A8 rfl B0) (B8 (A8 rfl B0) G6)))))
end Go.Proofs.YtcfkbhnpfjjmjaaGreat
namespace Go.M
open Go.AV
def BL7 (t : A3) (x : M1) (c : Int) : A3 := { t with Yes := x.Yes, Time := x.Time, End := c }
theorem wf_fin {w : TWorld} (hw : WI w) {i : Nat} {t : A3} (ht : w.Txns[i]? = some t) (hq : 0 ≤ t.Begin ∧ t.Begin < w.Count) (x : M1) : WF w (wTxn w i (BL7 t x w.Count)) := by
  have h := hw.txns.2 t (C4 ht)
  have h2 := AS0 hw (i := i) (t := BL7 t x w.Count) ⟨h.terms, h.ops, h.got, h.span.1, .inr ⟨hq.1, hq.2, Int.le_refl _⟩⟩
  exact ⟨h2.1, h2.2, rfl, rfl⟩
theorem Ak6 {w : TWorld} (hw : WI w) {g : Int} {gi : TGroup} (h0 : 0 ≤ g) (hx : w.Groups[g.toNat]? = some gi) (hl : 0 ≤ gi.Lead) : ∃ c, w.Clocks[(3 * g + gi.Lead).toNat]? = some c ∧ goodClock c = true ∧ gi.Lead < 3 ∧ g ≤ 2 ∧ M.isTrue w.Now = true ∧ -1000000 ≤ (e8 c w.Now).High ∧ (e8 c w.Now).High ≤ 1000000 := by
  have hgi := hw.groups gi (C4 hx)
  have hli := AV2 hgi.good hl
  have h3 := hgi.three
  have hgl := (List.getElem?_eq_some_iff.1 hx).1
  have hng := hw.n
  obtain ⟨c, hc⟩ := get_some (show (3 * g + gi.Lead).toNat < w.Clocks.length by rw [hw.clocks.1]; omega)
  have h9 := hw.clocks.2 c (C4 hc)
  have h8 := hw.now
  refine ⟨c, hc, ?_, by omega, by omega, ?_, ?_, ?_⟩
  · unfold goodClock within; rw [Bool.and_eq_true, decide_eq_true_eq, decide_eq_true_eq]; exact h9
  · unfold M.isTrue within; rw [Bool.and_eq_true, decide_eq_true_eq, decide_eq_true_eq]; exact h8
  · show -1000000 ≤ w.Now + c.Off + 5; omega
  · show w.Now + c.Off + 5 ≤ 1000000; omega
end Go.M
namespace Go.Proofs.YtcfkbhnpfjjmjaaGreat
open Go Go.AV Go.M
attribute [local irreducible] OpW OpA OpS AWP B9 J2 C9 OpE RetOk H0 I6 Le Ev F1 J8 V9 Int.tmod Int.tdiv IntKind.wrap bandI
theorem CD2 (b : Nat) (w : TWorld) (X : WX) (T : List (Value × Value)) (L : List Value) (t : Int) (told : M1) (lead : Int) (gi : TGroup) (hw : WI w) (hq : ∀ tx, w.Txns[(t - 1).toNat]? = some tx → 0 ≤ tx.Begin ∧ tx.Begin < w.Count) (hT : T.length = w.Txns.length) (ht : 1 ≤ t ∧ (t - 1).toNat < w.Txns.length) (h0 : 0 ≤ lead) (hx : w.Groups[lead.toNat]? = some gi) (hl : 0 ≤ gi.Lead) : C9 Tryz.prog 242 [AV.ptr b 0, AV.int t, AV.agg told.cs, AV.int lead] (WB b w X T L) (fun v : TWorld × Bool => WF w v.1) (fun v => WB b v.1 X T L) (fun v => AV.bool v.2) := by
 have hng := hw.n
 have htn := hw.txns.1
 obtain ⟨c, hc, hcg, hl3, hg2, hnow, hsl, hsh⟩ := Ak6 hw h0 hx hl
 obtain ⟨tx, htx⟩ := get_some ht.2
 obtain ⟨y, hy⟩ := get_some (show (t - 1).toNat < T.length by omega)
 have hls := AT1 b w X T L lead gi c hx qz8 qz8 hc hcg hnow
 have hwf := wf_fin hw htx (hq tx htx) told
 obtain ⟨W', hW⟩ : ∃ W', wTxn w (t - 1).toNat (BL7 tx told w.Count) = W' := ⟨_, rfl⟩
 rw [hW] at hwf
 have hfr := Ak5 b W' X T L t hwf.wi
 refine C6 Tryz.func242 rfl Tryz.ntmps242 rfl ?_
 refine R3 ?_
 intro b6
 refine R11 ?_
 refine A4 rfl (E8 6 rfl K0 N7 (A0 rfl) rfl (A0 rfl) qz8 (by rw [S6 hT]; omega)) ?_
 refine R12 ?_
 refine L2 rfl (O5 rfl rfl rfl) (fun hc => X0 [1, 1, 1, 1, 1, 1, 1] 1 (nin A3.ow w.Txns T ++ nin A2.ow w.Looks L) ([]) rfl Tryz.call244 rfl rfl (B5) (hls) (A1 (B1 rfl hc) (A1 (B1 rfl hc) A7))) ?_
 refine L2 rfl (O5 rfl rfl rfl) (fun hc => BE4 rfl Tryz.underlying218 rfl I7 (B1 rfl hc) rfl) ?_
 refine R3 ?_
 refine A6 (A0 rfl) ?_ ?_
 ·intro h28
  refine R5 ?_
  exact H3 [1, 1, 1, 1, 1, 1, 1] 1 (nin A3.ow w.Txns T ++ nin A2.ow w.Looks L) [] ((w, false)) ((by first | exact WF.refl hw | exact hwf.trans (AQ9 hwf.wi ok49))) rfl (show List.Perm (nin A3.ow w.Txns T ++ nin A2.ow w.Looks L) ((nin A3.ow w.Txns T ++ nin A2.ow w.Looks L) ++ []) from B5) B0 (E4 rfl (A8 rfl B0))
 intro h28
 refine R6 ?_
 refine A4 rfl (S8 6 rfl (A0 rfl) rfl qz2 rfl) ?_
 refine A4 rfl (I9 6 rfl H6 rfl N9 (A0 rfl) rfl rfl qz2) ?_
 refine T1 6 rfl rfl rfl (A0 rfl) (A0 rfl) (u4 _) rfl N9 qz2 rfl ?_
 refine R6 ?_
 refine A4 rfl (S8 6 rfl (A0 rfl) rfl qz2 rfl) ?_
 refine A4 rfl (I9 6 rfl H6 rfl B6 (A0 rfl) rfl rfl qz2) ?_
 refine T1 6 rfl rfl rfl (A0 rfl) (A0 rfl) (Q1 _ _) rfl B6 qz2 rfl ?_
 refine R9 ?_
 refine A4 rfl (S8 6 rfl (A0 rfl) rfl qz2 rfl) ?_
 refine A4 rfl (I9 6 rfl H6 rfl B6 (A0 rfl) rfl rfl qz2) ?_
 refine T1 6 rfl rfl rfl (A0 rfl) (A0 rfl) (Q1 _ _) rfl B6 qz2 rfl ?_
 refine R2 ?_
 refine I3 (show _ = Go.AV.Own.box b6 148 told.cs :: WB b W' X T L from (by rw [← hW]; unfold WB wTxn; dsimp only; simp only [List.set_set]; rw [j7 htx hy, AE4 (p' := BL7 tx told w.Count) htx (fun _ => rfl)]; rfl)) ?_
 refine R3 ?_
 refine I1 [1, 1, 1, 1, 1, 1, 1] 1 7 (nin A3.ow W'.Txns T ++ nin A2.ow W'.Looks L) ([]) (fun zz => nin A3.ow W'.Txns T ++ nin A2.ow W'.Looks L) rfl rfl rfl rfl Tryz.call198 rfl rfl (show List.Perm (nin A3.ow W'.Txns T ++ nin A2.ow W'.Looks L) ((nin A3.ow W'.Txns T ++ nin A2.ow W'.Looks L) ++ ([])) from B5) (hfr) (A1 (A0 rfl) (A1 (A0 rfl) A7)) (fun a => J7) ?_
 intro x49 ok49
 refine R6 ?_
 exact H3 [0, 0, 0, 0, 0, 0, 0] 1 (nin A3.ow W'.Txns T ++ nin A2.ow W'.Looks L) [] ((r9 W' x49, true)) ((by first | exact WF.refl hw | exact hwf.trans (AQ9 hwf.wi ok49))) rfl (show List.Perm (nin A3.ow W'.Txns T ++ nin A2.ow W'.Looks L) ((nin A3.ow W'.Txns T ++ nin A2.ow W'.Looks L) ++ []) from B5) B0 (E4 rfl (A8 rfl B0))
theorem Bl1 (b : Nat) (w : TWorld) (X : WX) (T : List (Value × Value)) (L : List Value) (t lead : Int) (gi : TGroup) (hw : WI w) (hq : ∀ tx, w.Txns[(t - 1).toNat]? = some tx → 0 ≤ tx.Begin ∧ tx.Begin < w.Count) (hT : T.length = w.Txns.length) (ht : 1 ≤ t ∧ (t - 1).toNat < w.Txns.length) (h0 : 0 ≤ lead) (hx : w.Groups[lead.toNat]? = some gi) : C9 Tryz.prog 228 [AV.ptr b 0, AV.int t, AV.int lead] (WB b w X T L) (fun v : TWorld × Bool × Bool => WF w v.1) (fun v => WB b v.1 X T L) (fun v => AV.tup [AV.bool v.2.1, AV.bool v.2.2]) := by
 have hgi := hw.groups gi (C4 hx)
 have hng := hw.n
 have hgl := (List.getElem?_eq_some_iff.1 hx).1
 refine C6 Tryz.func228 rfl Tryz.ntmps228 rfl ?_
 refine R14 ?_
 refine A4 rfl (E8 2 rfl G7 C8 (A0 rfl) rfl (A0 rfl) qz8 f6) ?_
 refine A4 rfl (W9 2 rfl (A0 rfl) rfl J9 C8 qz6 D3) ?_
 refine A4 rfl (B2 rfl Tryz.call200 rfl (i7 gi hgi.good) (A1 (A0 rfl) A7)) ?_
 refine R2 ?_
 refine A6 (A0 rfl) ?_ ?_
 ·intro h19
  refine R6 ?_
  exact H3 [0, 0, 0, 0, 0, 0, 0] 0 (nin A3.ow w.Txns T ++ nin A2.ow w.Looks L) [] ((w, false, false)) ((by first | exact WF.refl hw | exact ok34)) rfl (show List.Perm (nin A3.ow w.Txns T ++ nin A2.ow w.Looks L) ((nin A3.ow w.Txns T ++ nin A2.ow w.Looks L) ++ []) from B5) B0 (U3 rfl D3 (B8 (A8 rfl B0) (B8 (A8 rfl B0) G6)))
 intro h19
 have hrd : o6 gi = true := (by simpa using h19)
 have hl := j6 hrd
 have hgs := AI2 hgi.good hl
 have htl := hgs.tlen
 refine R5 ?_
 refine A4 rfl (X0 [0, 0, 0, 0, 0, 0, 0] 0 (nin A3.ow w.Txns T ++ nin A2.ow w.Looks L) ([]) rfl Tryz.call202 rfl rfl (B5) (AK9 b w X T L lead gi hx h0 hgi.good hl) (A1 (A0 rfl) (A1 (A0 rfl) A7))) ?_
 refine R1 ?_
 refine A4 rfl (B2 rfl Tryz.call147 rfl (l7 (leadSure gi) t qz8) (A1 (A0 rfl) (A1 (A0 rfl) A7))) ?_
 refine R4 ?_
 intro b8
 refine R9 ?_
 refine A6 (A0 rfl) ?_ ?_
 ·intro h29
  refine R6 ?_
  exact H3 [1, 1, 1, 1, 1, 1, 1] 1 (nin A3.ow w.Txns T ++ nin A2.ow w.Looks L) [] ((w, false, false)) ((by first | exact WF.refl hw | exact ok34)) rfl (show List.Perm (nin A3.ow w.Txns T ++ nin A2.ow w.Looks L) ((nin A3.ow w.Txns T ++ nin A2.ow w.Looks L) ++ []) from B5) B0 (U3 rfl D3 (B8 (A8 rfl B0) (B8 (A8 rfl B0) G6)))
 intro h29
 refine R7 ?_
 refine I1 [1, 1, 1, 1, 1, 1, 1] 1 7 (nin A3.ow w.Txns T ++ nin A2.ow w.Looks L) ([]) (fun zz => nin A3.ow zz.1.Txns T ++ nin A2.ow zz.1.Looks L) rfl rfl rfl rfl Tryz.call242 rfl rfl (show List.Perm (nin A3.ow w.Txns T ++ nin A2.ow w.Looks L) ((nin A3.ow w.Txns T ++ nin A2.ow w.Looks L) ++ ([])) from B5) (CD2 b w X T L t _ lead gi hw hq hT ht h0 hx hl) (A1 (A0 rfl) (A1 (A0 rfl) (A1 (A0 rfl) (A1 (A0 rfl) A7)))) (fun a => J7) ?_
 intro x34 ok34
 refine R4 ?_
 exact H3 [0, 0, 0, 0, 0, 0, 0] 1 (nin A3.ow x34.1.Txns T ++ nin A2.ow x34.1.Looks L) [] ((x34.1, x34.2, true)) ((by first | exact WF.refl hw | exact ok34)) rfl (show List.Perm (nin A3.ow x34.1.Txns T ++ nin A2.ow x34.1.Looks L) ((nin A3.ow x34.1.Txns T ++ nin A2.ow x34.1.Looks L) ++ []) from B5) B0 (U3 rfl D3 (B8 (A8 rfl B0) (B8 (A8 rfl B0) G6)))
theorem CD3 (b : Nat) (w : TWorld) (X : WX) (T : List (Value × Value)) (L : List Value) (t lead : Int) (yes : Bool) (times : List Int) (gi : TGroup) (hw : WI w) (h0 : 0 ≤ lead) (hx : w.Groups[lead.toNat]? = some gi) : C9 Tryz.prog 229 [AV.ptr b 0, AV.int t, AV.int lead, AV.bool yes, ints times] (WB b w X T L) (fun v : TGroup × Bool => WG v.1) (fun v => WB b (wGroup w lead.toNat v.1) X T L) (fun v => AV.bool v.2) := by
 have hgi := hw.groups gi (C4 hx)
 have hng := hw.n
 have hgl := (List.getElem?_eq_some_iff.1 hx).1
 refine C6 Tryz.func229 rfl Tryz.ntmps229 rfl ?_
 refine R13 ?_
 refine A4 rfl (E8 2 rfl G7 C8 (A0 rfl) rfl (A0 rfl) qz8 f6) ?_
 refine A4 rfl (W9 2 rfl (A0 rfl) rfl J9 C8 qz6 D3) ?_
 refine A4 rfl (B2 rfl Tryz.call200 rfl (i7 gi hgi.good) (A1 (A0 rfl) A7)) ?_
 refine R2 ?_
 refine A6 (A0 rfl) ?_ ?_
 ·intro h23
  refine R5 ?_
  exact H3 [0, 0, 0, 0, 0, 0, 0] 0 (nin A3.ow w.Txns T ++ nin A2.ow w.Looks L) [] ((gi, false)) (An2) rfl (show List.Perm (nin A3.ow w.Txns T ++ nin A2.ow w.Looks L) ((nin A3.ow w.Txns T ++ nin A2.ow w.Looks L) ++ []) from B5) An3 (E4 rfl (A8 rfl B0))
 intro h23
 have hrd : o6 gi = true := At6
 have hl := j6 hrd
 have hgs := m9 hgi.good hl
 have htl := hgs.tlen
 obtain ⟨c, hc, hcg, hl3, hg2, hnow, hsl, hsh⟩ := Ak6 hw h0 hx hl
 refine R6 ?_
 refine A4 rfl (X0 [0, 0, 0, 0, 0, 0, 0] 0 (nin A3.ow w.Txns T ++ nin A2.ow w.Looks L) ([]) rfl Tryz.call180 rfl rfl (B5) (y7 b w X T L lead gi hx h0 hgi.good hl) (A1 (A0 rfl) (A1 (A0 rfl) A7))) ?_
 refine R1 ?_
 refine A4 rfl (B2 rfl Tryz.call147 rfl (l7 (leadFull gi) t qz8) (A1 (A0 rfl) (A1 (A0 rfl) A7))) ?_
 refine R4 ?_
 intro b11
 refine R7 ?_
 refine A6 (A0 rfl) ?_ ?_
 ·intro h32
  refine R4 ?_
  refine I1 [1, 1, 1, 1, 1, 1, 1] 1 7 (nin A3.ow w.Txns T ++ nin A2.ow w.Looks L) ([]) (fun zz => nin A3.ow w.Txns T ++ nin A2.ow w.Looks L) rfl rfl rfl rfl Tryz.call184 rfl rfl (show List.Perm (nin A3.ow w.Txns T ++ nin A2.ow w.Looks L) ((nin A3.ow w.Txns T ++ nin A2.ow w.Looks L) ++ ([])) from B5) (AF8 b w X T L lead gi hx h0 hgi) (A1 (A0 rfl) (A1 (A0 rfl) A7)) (fun a => J7) ?_
  intro x35 ok35
  refine R6 ?_
  exact H3 [0, 0, 0, 0, 0, 0, 0] 1 (nin A3.ow w.Txns T ++ nin A2.ow w.Looks L) [] ((x35, true)) (An2) rfl (show List.Perm (nin A3.ow w.Txns T ++ nin A2.ow w.Looks L) ((nin A3.ow w.Txns T ++ nin A2.ow w.Looks L) ++ []) from B5) An3 (E4 rfl (A8 rfl B0))
 intro h32
 refine R6 ?_
 intro b13
 refine R7 ?_
 refine A6 (A0 rfl) ?_ ?_
 ·intro h38
  have hput := AF9 b w X T L lead ⟨2, t, maxAll ((e8 c w.Now).High + 1) times, 0, [], [], true⟩ gi hx h0 hgi (show (0 : Nat) ≤ 1000 from by decide) (fun w9 hw9 => by cases hw9)
  refine R9 ?_
  refine A4 rfl (X0 [2, 2, 2, 2, 2, 2, 2] 2 (nin A3.ow w.Txns T ++ nin A2.ow w.Looks L) ([]) rfl Tryz.call244 rfl rfl (B5) (AT1 b w X T L lead gi c hx qz8 qz8 hc hcg hnow) (A1 (A0 rfl) (A1 (A0 rfl) A7))) ?_
  refine A4 rfl (B2 rfl Tryz.call243 rfl (BQ1 times (e8 c w.Now) ⟨hsh, hsl⟩) (A1 (A0 rfl) (A1 (A0 rfl) A7))) ?_
  refine R8 ?_
  refine I1 [2, 2, 2, 2, 2, 2, 2] 2 7 (nin A3.ow w.Txns T ++ nin A2.ow w.Looks L) ([]) (fun zz => nin A3.ow w.Txns T ++ nin A2.ow w.Looks L) rfl rfl rfl rfl Tryz.call178 rfl rfl (show List.Perm (nin A3.ow w.Txns T ++ nin A2.ow w.Looks L) ((nin A3.ow w.Txns T ++ nin A2.ow w.Looks L) ++ ([])) from B5) (hput) (A1 (A0 rfl) (A1 (A0 rfl) (A1 (q7 (A0 rfl) AL0) A7))) (fun a => J7) ?_
  intro x49 ok49
  refine R3 ?_
  exact H3 [0, 0, 0, 0, 0, 0, 0] 2 (nin A3.ow w.Txns T ++ nin A2.ow w.Looks L) [] ((x49.1, x49.2)) (An2) rfl (show List.Perm (nin A3.ow w.Txns T ++ nin A2.ow w.Looks L) ((nin A3.ow w.Txns T ++ nin A2.ow w.Looks L) ++ []) from B5) An3 (E4 rfl (A8 rfl B0))
 intro h38
 have hput := AF9 b w X T L lead ⟨2, t, 0, 0, [], [], false⟩ gi hx h0 hgi (show (0 : Nat) ≤ 1000 from by decide) (fun w9 hw9 => by cases hw9)
 refine R6 ?_
 refine I1 [2, 2, 2, 2, 2, 2, 2] 2 7 (nin A3.ow w.Txns T ++ nin A2.ow w.Looks L) ([]) (fun zz => nin A3.ow w.Txns T ++ nin A2.ow w.Looks L) rfl rfl rfl rfl Tryz.call178 rfl rfl (show List.Perm (nin A3.ow w.Txns T ++ nin A2.ow w.Looks L) ((nin A3.ow w.Txns T ++ nin A2.ow w.Looks L) ++ ([])) from B5) (hput) (A1 (A0 rfl) (A1 (A0 rfl) (A1 (q7 (A0 rfl) AL0) A7))) (fun a => J7) ?_
 intro x49 ok49
 refine R3 ?_
 exact H3 [0, 0, 0, 0, 0, 0, 0] 2 (nin A3.ow w.Txns T ++ nin A2.ow w.Looks L) [] ((x49.1, x49.2)) (An2) rfl (show List.Perm (nin A3.ow w.Txns T ++ nin A2.ow w.Looks L) ((nin A3.ow w.Txns T ++ nin A2.ow w.Looks L) ++ []) from B5) An3 (E4 rfl (A8 rfl B0))
end Go.Proofs.YtcfkbhnpfjjmjaaGreat
namespace Go.M
open Go.AV
theorem BJ6 {l : List C5} (h : goodCells l = true) (k : Str) (t : Int) : (cellAt l k t).1.length ≤ 24 := by
  unfold cellAt
  split
  · rename_i c hc
    obtain ⟨_, _, h3⟩ := g8 h
    have hm : c ∈ l := by unfold findC at hc; exact List.mem_of_find?_eq_some hc
    unfold cellVal
    split
    · rename_i v hv
      have h9 := (h3 c hm).2.2.2.2 v (List.mem_reverse.1 (List.mem_of_find?_eq_some hv))
      unfold verGood isStored goodVal at h9; simp only [Bool.and_eq_true, decide_eq_true_eq] at h9; dsimp only; omega
    · exact Nat.zero_le _
  · exact Nat.zero_le _
def s0 (t : A3) (g : G5) : A3 := { t with Got := t.Got ++ [g] }
theorem wf_got {w : TWorld} (hw : WI w) {i : Nat} {t : A3} (ht : w.Txns[i]? = some t) {g : G5} (hl : t.Got.length < 8) (hg : g.size ≤ 64) : WF w (wTxn w i (s0 t g)) := by
  have h := hw.txns.2 t (C4 ht)
  have h2 := AS0 hw (i := i) (t := s0 t g) ⟨h.terms, h.ops, ⟨by show (t.Got ++ [g]).length ≤ 8; rw [G3]; simp; omega, fun x hx => by
    rcases List.mem_append.1 (show x ∈ t.Got ++ [g] from hx) with hx | hx
    · exact h.got.2 x hx
    · rw [List.mem_singleton.1 hx]; exact hg⟩, h.span⟩
  exact ⟨h2.1, h2.2, rfl, rfl⟩
theorem BJ7 {w : TWorld} (hw : WI w) (k : Str) : ∃ gi, w.Groups[((partW w.Cuts k : Nat) : Int).toNat]? = some gi ∧ (partW w.Cuts k : Nat) < w.Groups.length := by
  have h1 := Ak4 w.Cuts k
  have h2 := hw.cuts.1
  obtain ⟨gi, hg⟩ := get_some (show ((partW w.Cuts k : Nat) : Int).toNat < w.Groups.length by omega)
  exact ⟨gi, hg, by omega⟩
end Go.M
namespace Go.Proofs.YtcfkbhnpfjjmjaaGreat
open Go Go.AV Go.M
attribute [local irreducible] OpW OpA OpS AWP B9 J2 C9 OpE RetOk H0 I6 Le Ev F1 J8 V9 Int.tmod Int.tdiv IntKind.wrap bandI
theorem AG0 {α : Type} {a b c : List α} (e : a = b) (h : b.Perm c) : a.Perm c := e ▸ h
theorem read_own (b : Nat) (w : TWorld) (X : WX) (T : List (Value × Value)) (L : List Value) (t : Int) (k : Str) (hw : WI w) (hT : T.length = w.Txns.length) (ht : 1 ≤ t ∧ (t - 1).toNat < w.Txns.length) (hk : k.length ≤ 12) : C9 Tryz.prog 211 [AV.ptr b 0, AV.int t, AV.str k] (WB b w X T L) (fun v : (TWorld × Bool) × List (Value × Value) => WF w v.1.1 ∧ v.2.length = T.length) (fun v => WB b v.1.1 X v.2 L) (fun v => AV.bool v.1.2) := by
 have hng := hw.n
 have htn := hw.txns.1
 obtain ⟨p, hp⟩ : ∃ p : Nat, partW w.Cuts k = p := ⟨_, rfl⟩
 obtain ⟨gi, hx, hgl⟩ := BJ7 hw k
 rw [hp] at hx hgl
 have hgi := hw.groups gi (C4 hx)
 obtain ⟨tx, htx⟩ := get_some ht.2
 obtain ⟨y, hy⟩ := get_some (show (t - 1).toNat < T.length by omega)
 have htk := hw.txns.2 tx (C4 htx)
 obtain ⟨n, hn⟩ := get_some (show ((p : Nat) : Int).toNat < tx.Terms.length by rw [htk.terms]; omega)
 have hlate := BX3 b w X T L (p : Int) t tx y n gi htx hy hT qz8 qz8 hn hx
 have hpart : B9 Tryz.prog 170 [strs w.Cuts, AV.str k] (AV.int ((p : Nat) : Int)) := by rw [← hp]; exact AE2 w.Cuts k
 refine C6 Tryz.func211 rfl Tryz.ntmps211 rfl ?_
 refine R12 ?_
 refine A4 rfl (B2 rfl Tryz.call170 rfl (hpart) (A1 (A0 rfl) (A1 (A0 rfl) A7))) ?_
 refine R11 ?_
 refine A4 rfl (E8 2 rfl G7 C8 (A0 rfl) rfl (A0 rfl) qz8 AL7) ?_
 refine A4 rfl (W9 2 rfl (A0 rfl) rfl J9 C8 qz6 D3) ?_
 refine A4 rfl (B2 rfl Tryz.call200 rfl (i7 gi hgi.good) (A1 (A0 rfl) A7)) ?_
 refine R2 ?_
 refine A6 (A0 rfl) ?_ ?_
 ·intro h26
  refine R5 ?_
  exact H3 [0, 0, 0, 0, 0, 0, 0] 0 (nin A3.ow w.Txns T ++ nin A2.ow w.Looks L) [] (((w, false), T)) (BA4) rfl (show List.Perm (nin A3.ow w.Txns T ++ nin A2.ow w.Looks L) ((nin A3.ow w.Txns T ++ nin A2.ow w.Looks L) ++ []) from B5) Az9 (E4 rfl (A8 rfl B0))
 intro h26
 have hrd : o6 gi = true := (by simpa using h26)
 have hl := j6 hrd
 refine R7 ?_
 refine A4 rfl (X0 [0, 0, 0, 0, 0, 0, 0] 0 (nin A3.ow w.Txns T ++ nin A2.ow w.Looks L) ([]) rfl Tryz.call230 rfl rfl (B5) (hlate) (A1 (A0 rfl) (A1 (A0 rfl) (A1 (A0 rfl) A7)))) ?_
 refine R1 ?_
 refine A6 (A0 rfl) ?_ ?_
 ·intro h30
  refine R4 ?_
  refine I1 [0, 0, 0, 0, 0, 0, 0] 0 7 (nin A3.ow w.Txns T ++ nin A2.ow w.Looks L) ([]) (fun zz => nin A3.ow zz.Txns T ++ nin A2.ow zz.Looks L) rfl rfl rfl rfl Tryz.call212 rfl rfl (show List.Perm (nin A3.ow w.Txns T ++ nin A2.ow w.Looks L) ((nin A3.ow w.Txns T ++ nin A2.ow w.Looks L) ++ ([])) from B5) (AV3 b w X T L t hw hT qz8) (A1 (A0 rfl) (A1 (A0 rfl) A7)) (fun a => J7) ?_
  intro x33 ok33
  refine R6 ?_
  exact H3 [0, 0, 0, 0, 0, 0, 0] 0 (nin A3.ow x33.Txns T ++ nin A2.ow x33.Looks L) [] (((x33, true), T)) (BA4) rfl (show List.Perm (nin A3.ow x33.Txns T ++ nin A2.ow x33.Looks L) ((nin A3.ow x33.Txns T ++ nin A2.ow x33.Looks L) ++ []) from B5) Az9 (E4 rfl (A8 rfl B0))
 intro h30
 refine R8 ?_
 refine I1 [0, 0, 0, 0, 0, 0, 0] 0 7 (nin A3.ow w.Txns T ++ nin A2.ow w.Looks L) ([]) (fun zz => nin A3.ow zz.1.Txns T ++ nin A2.ow zz.1.Looks L) rfl rfl rfl rfl Tryz.call231 rfl rfl (show List.Perm (nin A3.ow w.Txns T ++ nin A2.ow w.Looks L) ((nin A3.ow w.Txns T ++ nin A2.ow w.Looks L) ++ ([])) from B5) (Bl0 b w X T L (p : Int) t k false gi hw hT ht qz8 hx hl hk) (A1 (A0 rfl) (A1 (A0 rfl) (A1 (A0 rfl) (A1 (A0 rfl) (A1 t0 A7))))) (fun a => J7) ?_
 intro x38 ok38
 refine R2 ?_
 refine A6 (A0 rfl) ?_ ?_
 ·intro h39
  refine R5 ?_
  exact H3 [0, 0, 0, 0, 0, 0, 0] 0 (nin A3.ow x38.1.Txns T ++ nin A2.ow x38.1.Looks L) [] (((x38.1, false), T)) (BA4) rfl (show List.Perm (nin A3.ow x38.1.Txns T ++ nin A2.ow x38.1.Looks L) ((nin A3.ow x38.1.Txns T ++ nin A2.ow x38.1.Looks L) ++ []) from B5) Az9 (E4 rfl (A8 rfl B0))
 intro h39
 have hx : x38.1.Groups[((p : Nat) : Int).toNat]? = some gi := (by rw [ok38.gr]; exact hx)
 have hT : T.length = x38.1.Txns.length := (hT.trans ok38.ws.txns.symm)
 obtain ⟨tx, htx⟩ := get_some (show (t - 1).toNat < x38.1.Txns.length by omega)
 have htk := ok38.wi.txns.2 tx (C4 htx)
 have hgs := AI2 hgi.good hl
 have hcs := Ap0 hgs.cells
 have hcl := BJ6 hgs.cells k 100000
 refine R5 ?_
 refine A4 rfl (X0 [0, 0, 0, 0, 0, 0, 0] 0 (nin A3.ow x38.1.Txns T ++ nin A2.ow x38.1.Looks L) ([]) rfl Tryz.call202 rfl rfl (B5) (AK9 b x38.1 X T L (p : Int) gi hx qz8 hgi.good hl) (A1 (A0 rfl) (A1 (A0 rfl) A7))) ?_
 refine A4 rfl (BE4 rfl c0 rfl Tryz.isAgg179 (A0 rfl) rfl) ?_
 refine R1 ?_
 refine A4 rfl (B2 rfl Tryz.call203 rfl (Az3 (leadSure gi).Cells k 100000 qz8) (A1 (A0 rfl) (A1 (A0 rfl) (A1 D8 A7)))) ?_
 refine R12 ?_
 refine A6 (A0 rfl) ?_ ?_
 ·intro h50
  obtain ⟨G, hG⟩ : ∃ G : G5, G = ⟨k, [], (cellAt (leadSure gi).Cells k 100000).2⟩ := ⟨_, rfl⟩
  have hGs : G.size ≤ 64 := (by rw [hG]; unfold G5.size; simp only [M6]; omega)
  refine R1 ?_
  refine A4 rfl (D6 rfl (L5 (l := []) rfl)) ?_
  refine R3 ?_
  refine I3 t6 ?_
  refine AWP.le (N4 7 (t := ([Go.AV.Own.arr y.1 45 3 (tx.Got.map G5.cs), Go.AV.Own.arr y.2 3 1 (tx.Terms.map fun n => [AV.int n])]) ++ (nin A3.ow (x38.1.Txns.eraseIdx (t - 1).toNat) (T.eraseIdx (t - 1).toNat) ++ nin A2.ow x38.1.Looks L)) (r6 htx hy)) ?_
  refine R8 ?_
  refine A4 rfl (E8 5 rfl K0 N7 (A0 rfl) rfl (A0 rfl) qz8 AL7) ?_
  refine A4 rfl (I9 5 rfl H6 rfl N1 (A0 rfl) rfl rfl qz2) ?_
  refine A4 rfl (K1 5 rfl (A0 rfl) rfl Y5 qz2 rfl) ?_
  refine R3 ?_
  refine A6 (A0 rfl) ?_ ?_
  ·intro h62
   have k62 := of_decide_eq_true h62; try simp only [A5] at k62
   refine AWP.le (C1 [0, 0, 0, 0, 0, 0, 0, 0, 0] rfl) ?_
   refine AWP.le (N4 7 (t := nin A3.ow x38.1.Txns T ++ nin A2.ow x38.1.Looks L) ((r6 htx hy).symm)) ?_
   refine R5 ?_
   exact H3 [0, 0, 0, 0, 0, 0, 0] 0 (nin A3.ow x38.1.Txns T ++ nin A2.ow x38.1.Looks L) [] (((x38.1, false), T)) (BA4) rfl (show List.Perm (nin A3.ow x38.1.Txns T ++ nin A2.ow x38.1.Looks L) ((nin A3.ow x38.1.Txns T ++ nin A2.ow x38.1.Looks L) ++ []) from B5) Az9 (E4 rfl (A8 rfl B0))
  intro h62
  have k62 := of_decide_eq_false h62; try simp only [A5] at k62
  refine R2 ?_
  refine I3 t6 ?_
  refine AWP.le (C1 [0, 4, 5] rfl) ?_
  refine M3 _ [(0, false), (1, false), (2, false), (3, false), (4, false), (5, false), (6, false), (7, false), (8, false), (9, false), (10, false), (11, false), (12, false), (13, false), (14, false), (15, false), (16, false), (17, false), (18, false), (19, false), (20, false), (21, false), (22, true)] F2 F2 rfl (O2 2) ?_
  refine R14 ?_
  refine M4 rfl rfl rfl (fun ext => E8 1 rfl K0 N7 (A0 rfl) rfl (A0 rfl) qz8 AL7) ?_
  refine M4 rfl rfl rfl (fun ext => I9 1 rfl H6 rfl N1 (A0 rfl) rfl rfl qz2) ?_
  refine M4 rfl rfl rfl (fun ext => K1 1 rfl (A0 rfl) rfl Y5 qz2 rfl) ?_
  refine R5 ?_
  refine Q0 rfl rfl rfl (J6 (by' := 40) 2 rfl J3 Tryz.type45 rfl rfl rfl rfl rfl rfl (A0 rfl) (A0 rfl) rfl qz3) (fun a _ => qz4) ?_
  intro v85_1 _
  refine R1 ?_
  refine A4 rfl (E8 1 rfl K0 N7 (A0 rfl) rfl (A0 rfl) qz8 AL7) ?_
  refine A4 rfl (I9 1 rfl H6 rfl N1 (A0 rfl) rfl rfl qz2) ?_
  refine Q5 2 rfl fun one_v85_1 => ?_
  refine T1 1 rfl rfl rfl (A0 rfl) (A0 rfl) (M0 one_v85_1) rfl N1 qz2 rfl ?_
  refine R2 ?_
  refine I3 t6 ?_
  refine AWP.le (C1 [0, 0, 1, 1, 1, 1, 1, 0, 0] rfl) ?_
  refine AWP.le (N4 7 (t := nin A3.ow (x38.1.Txns.set (t - 1).toNat (s0 tx G)) (T.set (t - 1).toNat (v85_1, y.2)) ++ nin A2.ow x38.1.Looks L) ((AG0 (b := [Go.AV.Own.arr v85_1 45 3 ((tx.Got ++ [G]).map G5.cs), Go.AV.Own.arr y.2 3 1 (tx.Terms.map fun n => [AV.int n])] ++ (nin A3.ow (x38.1.Txns.eraseIdx (t - 1).toNat) (T.eraseIdx (t - 1).toNat) ++ nin A2.ow x38.1.Looks L)) Bc2 (BJ3 (w := x38.1) (L := L) (p' := s0 tx G) (y' := (v85_1, y.2)) htx hy)))) ?_
  refine R4 ?_
  exact H3 [0, 1, 1, 1, 1, 0, 0] 0 (nin A3.ow (x38.1.Txns.set (t - 1).toNat (s0 tx G)) (T.set (t - 1).toNat (v85_1, y.2)) ++ nin A2.ow x38.1.Looks L) [] (((wTxn x38.1 (t - 1).toNat (s0 tx G), true), T.set (t - 1).toNat (v85_1, y.2))) (BA4) rfl (show List.Perm (nin A3.ow (x38.1.Txns.set (t - 1).toNat (s0 tx G)) (T.set (t - 1).toNat (v85_1, y.2)) ++ nin A2.ow x38.1.Looks L) ((nin A3.ow (x38.1.Txns.set (t - 1).toNat (s0 tx G)) (T.set (t - 1).toNat (v85_1, y.2)) ++ nin A2.ow x38.1.Looks L) ++ []) from B5) Az9 (E4 rfl (A8 rfl B0))
 intro h50
 obtain ⟨G, hG⟩ : ∃ G : G5, G = ⟨k, (cellAt (leadSure gi).Cells k 100000).1, (cellAt (leadSure gi).Cells k 100000).2⟩ := ⟨_, rfl⟩
 have hGs : G.size ≤ 64 := (by rw [hG]; unfold G5.size; dsimp only; omega)
 refine R3 ?_
 refine I3 t6 ?_
 refine AWP.le (N4 7 (t := ([Go.AV.Own.arr y.1 45 3 (tx.Got.map G5.cs), Go.AV.Own.arr y.2 3 1 (tx.Terms.map fun n => [AV.int n])]) ++ (nin A3.ow (x38.1.Txns.eraseIdx (t - 1).toNat) (T.eraseIdx (t - 1).toNat) ++ nin A2.ow x38.1.Looks L)) (r6 htx hy)) ?_
 refine R8 ?_
 refine A4 rfl (E8 5 rfl K0 N7 (A0 rfl) rfl (A0 rfl) qz8 AL7) ?_
 refine A4 rfl (I9 5 rfl H6 rfl N1 (A0 rfl) rfl rfl qz2) ?_
 refine A4 rfl (K1 5 rfl (A0 rfl) rfl Y5 qz2 rfl) ?_
 refine R3 ?_
 refine A6 (A0 rfl) ?_ ?_
 ·intro h62
  have k62 := of_decide_eq_true h62; try simp only [A5] at k62
  refine AWP.le (C1 [0, 0, 0, 0, 0, 0, 0, 0, 0] rfl) ?_
  refine AWP.le (N4 7 (t := nin A3.ow x38.1.Txns T ++ nin A2.ow x38.1.Looks L) ((r6 htx hy).symm)) ?_
  refine R5 ?_
  exact H3 [0, 0, 0, 0, 0, 0, 0] 0 (nin A3.ow x38.1.Txns T ++ nin A2.ow x38.1.Looks L) [] (((x38.1, false), T)) (BA4) rfl (show List.Perm (nin A3.ow x38.1.Txns T ++ nin A2.ow x38.1.Looks L) ((nin A3.ow x38.1.Txns T ++ nin A2.ow x38.1.Looks L) ++ []) from B5) Az9 (E4 rfl (A8 rfl B0))
 intro h62
 have k62 := of_decide_eq_false h62; try simp only [A5] at k62
 refine R2 ?_
 refine I3 t6 ?_
 refine AWP.le (C1 [0, 4, 5] rfl) ?_
 refine M3 _ [(0, false), (1, false), (2, false), (3, false), (4, false), (5, false), (6, false), (7, false), (8, false), (9, false), (10, false), (11, false), (12, false), (13, false), (14, false), (15, false), (16, false), (17, false), (18, false), (19, false), (20, false), (21, false), (22, true)] F2 F2 rfl (O2 2) ?_
 refine R14 ?_
 refine M4 rfl rfl rfl (fun ext => E8 1 rfl K0 N7 (A0 rfl) rfl (A0 rfl) qz8 AL7) ?_
 refine M4 rfl rfl rfl (fun ext => I9 1 rfl H6 rfl N1 (A0 rfl) rfl rfl qz2) ?_
 refine M4 rfl rfl rfl (fun ext => K1 1 rfl (A0 rfl) rfl Y5 qz2 rfl) ?_
 refine R5 ?_
 refine Q0 rfl rfl rfl (J6 (by' := 40) 2 rfl J3 Tryz.type45 rfl rfl rfl rfl rfl rfl (A0 rfl) (A0 rfl) rfl qz3) (fun a _ => qz4) ?_
 intro v85_2 _
 refine R1 ?_
 refine A4 rfl (E8 1 rfl K0 N7 (A0 rfl) rfl (A0 rfl) qz8 AL7) ?_
 refine A4 rfl (I9 1 rfl H6 rfl N1 (A0 rfl) rfl rfl qz2) ?_
 refine Q5 2 rfl fun one_v85_2 => ?_
 refine T1 1 rfl rfl rfl (A0 rfl) (A0 rfl) (M0 one_v85_2) rfl N1 qz2 rfl ?_
 refine R2 ?_
 refine I3 t6 ?_
 refine AWP.le (C1 [0, 0, 1, 1, 1, 1, 1, 0, 0] rfl) ?_
 refine AWP.le (N4 7 (t := nin A3.ow (x38.1.Txns.set (t - 1).toNat (s0 tx G)) (T.set (t - 1).toNat (v85_2, y.2)) ++ nin A2.ow x38.1.Looks L) ((AG0 (b := [Go.AV.Own.arr v85_2 45 3 ((tx.Got ++ [G]).map G5.cs), Go.AV.Own.arr y.2 3 1 (tx.Terms.map fun n => [AV.int n])] ++ (nin A3.ow (x38.1.Txns.eraseIdx (t - 1).toNat) (T.eraseIdx (t - 1).toNat) ++ nin A2.ow x38.1.Looks L)) Bc2 (BJ3 (w := x38.1) (L := L) (p' := s0 tx G) (y' := (v85_2, y.2)) htx hy)))) ?_
 refine R4 ?_
 exact H3 [0, 1, 1, 1, 1, 0, 0] 0 (nin A3.ow (x38.1.Txns.set (t - 1).toNat (s0 tx G)) (T.set (t - 1).toNat (v85_2, y.2)) ++ nin A2.ow x38.1.Looks L) [] (((wTxn x38.1 (t - 1).toNat (s0 tx G), true), T.set (t - 1).toNat (v85_2, y.2))) (BA4) rfl (show List.Perm (nin A3.ow (x38.1.Txns.set (t - 1).toNat (s0 tx G)) (T.set (t - 1).toNat (v85_2, y.2)) ++ nin A2.ow x38.1.Looks L) ((nin A3.ow (x38.1.Txns.set (t - 1).toNat (s0 tx G)) (T.set (t - 1).toNat (v85_2, y.2)) ++ nin A2.ow x38.1.Looks L) ++ []) from B5) Az9 (E4 rfl (A8 rfl B0))
end Go.Proofs.YtcfkbhnpfjjmjaaGreat
namespace Go.M
open Go.AV
def AE8 (t : A3) : A3 := { t with Put := true }
theorem Bv9 {w : TWorld} (hw : WI w) {i : Nat} {t : A3} (ht : w.Txns[i]? = some t) (g : Nat) (n : Int) : WI (wTxn w i (Y6 (AE8 t) g n)) ∧ WS w (wTxn w i (Y6 (AE8 t) g n)) := by
  have h := hw.txns.2 t (C4 ht)
  exact AS0 hw (i := i) (t := Y6 (AE8 t) g n) ⟨by show (t.Terms.set g n).length = _; rw [List.length_set]; exact h.terms, h.ops, h.got, h.span⟩
theorem s7 {u v w : TWorld} (h : WF u v) (k : WI w ∧ WS v w) : WI w ∧ WS u w := ⟨k.1, h.ws.trans k.2⟩
theorem AN4 {α : Type} {f : α → Nat} : ∀ {l : List α}, l.length ≤ sizeL f l
  | [] => Nat.zero_le _
  | x :: l => by rw [P7, H4]; have := AN4 (f := f) (l := l); omega
end Go.M
namespace Go.Proofs.YtcfkbhnpfjjmjaaGreat
open Go Go.AV Go.M
attribute [local irreducible] OpW OpA OpS AWP B9 J2 C9 OpE RetOk H0 I6 Le Ev F1 J8 V9 Int.tmod Int.tdiv IntKind.wrap bandI
theorem Bs1 (b : Nat) (w : TWorld) (X : WX) (T : List (Value × Value)) (L : List Value) (t p lead : Int) (reads : List Str) (writes : List A9) (gi : TGroup) (hw : WI w) (hT : T.length = w.Txns.length) (ht : 1 ≤ t ∧ (t - 1).toNat < w.Txns.length) (h0 : 0 ≤ p) (hx : w.Groups[p.toNat]? = some gi) (hz : sizeL (fun s : Str => s.length) reads + sizeL A9.size writes ≤ 1000) (hk : ∀ x ∈ writes, x.Key ∈ keyD) : C9 Tryz.prog 232 [AV.ptr b 0, AV.int t, AV.int p, AV.int lead, strs reads, AV.list 3 (writes.map A9.cs)] (WB b w X T L) (fun v : TWorld × Bool => WI v.1 ∧ WS w v.1) (fun v => WB b v.1 X T L) (fun v => AV.bool v.2) := by
 have hng := hw.n
 have htn := hw.txns.1
 have hgi := hw.groups gi (C4 hx)
 have hgl := (List.getElem?_eq_some_iff.1 hx).1
 obtain ⟨tx, htx⟩ := get_some ht.2
 obtain ⟨y, hy⟩ := get_some (show (t - 1).toNat < T.length by omega)
 have htk := hw.txns.2 tx (C4 htx)
 obtain ⟨n, hn⟩ := get_some (show p.toNat < tx.Terms.length by rw [htk.terms]; omega)
 have hlate := BX3 b w X T L p t tx y n gi htx hy hT qz8 h0 hn hx
 have hrl := AN4 (f := fun s : Str => s.length) (l := reads)
 have hwl := AN4 (f := A9.size) (l := writes)
 obtain ⟨rs, hrs⟩ : ∃ rs, reads.filter (inS w.Cuts p) = rs := ⟨_, rfl⟩
 obtain ⟨ws, hws⟩ : ∃ ws, (writes.filter fun w9 => inS w.Cuts p w9.Key) = ws := ⟨_, rfl⟩
 have hsh := CD1 w.Cuts reads writes p qz8 qz8
 have hsr := AX6 (f := fun s : Str => s.length) (p := inS w.Cuts p) (l := reads)
 have hsw := AX6 (f := A9.size) (p := fun w9 : A9 => inS w.Cuts p w9.Key) (l := writes)
 have hkw : ∀ x ∈ ws, x.Key ∈ keyD := fun x hx9 => by rw [← hws] at hx9; exact hk x (List.mem_filter.1 hx9).1
 have hwsl : ws.length ≤ 1000 := by rw [← hws]; exact Nat.le_trans (List.length_filter_le _ _) qz8
 rw [hrs, hws] at hsh
 rw [hrs] at hsr
 rw [hws] at hsw
 refine C6 Tryz.func232 rfl Tryz.ntmps232 rfl ?_
 refine R13 ?_
 refine A4 rfl (E8 2 rfl G7 C8 (A0 rfl) rfl (A0 rfl) qz8 BA2) ?_
 refine A4 rfl (W9 2 rfl (A0 rfl) rfl J9 C8 qz29 D3) ?_
 refine A4 rfl (B2 rfl Tryz.call200 rfl (i7 gi hgi.good) (A1 (A0 rfl) A7)) ?_
 refine R2 ?_
 refine A6 (A0 rfl) ?_ ?_
 ·intro h33
  refine R5 ?_
  exact H3 [0, 0, 0, 0, 0, 0, 0] 0 (nin A3.ow w.Txns T ++ nin A2.ow w.Looks L) [] ((w, false)) (qz9) rfl (show List.Perm (nin A3.ow w.Txns T ++ nin A2.ow w.Looks L) ((nin A3.ow w.Txns T ++ nin A2.ow w.Looks L) ++ []) from B5) Af7 (E4 rfl (A8 rfl B0))
 intro h33
 have hrd : o6 gi = true := (by simpa using h33)
 have hl := j6 hrd
 have hgs := m9 hgi.good hl
 have hfs := AP0 (AB0.2 hgs)
 have hft := hgs.tlen
 have hfh := hgs.hlen
 refine R5 ?_
 refine A4 rfl (X0 [0, 0, 0, 0, 0, 0, 0] 0 (nin A3.ow w.Txns T ++ nin A2.ow w.Looks L) ([]) rfl Tryz.call180 rfl rfl (B5) (y7 b w X T L p gi hx h0 hgi.good hl) (A1 (A0 rfl) (A1 (A0 rfl) A7))) ?_
 refine R1 ?_
 intro b13
 refine R7 ?_
 refine A4 rfl (B2 rfl Tryz.call147 rfl (l7 (leadFull gi) t qz8) (A1 (A0 rfl) (A1 (A0 rfl) A7))) ?_
 refine R4 ?_
 intro b14
 refine R10 ?_
 refine U1 rfl (fun hc => X0 [2, 2, 2, 2, 2, 2, 2] 2 (nin A3.ow w.Txns T ++ nin A2.ow w.Looks L) ([]) rfl Tryz.call230 rfl rfl (B5) (hlate) (A1 (B1 rfl hc) (A1 (B1 rfl hc) (A1 (B1 rfl hc) A7)))) ?_
 refine R2 ?_
 refine A6 (A0 rfl) ?_ ?_
 ·intro h49
  refine R4 ?_
  refine I1 [2, 2, 2, 2, 2, 2, 2] 2 7 (nin A3.ow w.Txns T ++ nin A2.ow w.Looks L) ([]) (fun zz => nin A3.ow zz.Txns T ++ nin A2.ow zz.Looks L) rfl rfl rfl rfl Tryz.call212 rfl rfl (show List.Perm (nin A3.ow w.Txns T ++ nin A2.ow w.Looks L) ((nin A3.ow w.Txns T ++ nin A2.ow w.Looks L) ++ ([])) from B5) (AV3 b w X T L t hw hT qz8) (A1 (A0 rfl) (A1 (A0 rfl) A7)) (fun a => J7) ?_
  intro x52 ok52
  refine R6 ?_
  exact H3 [0, 0, 0, 0, 0, 0, 0] 2 (nin A3.ow x52.Txns T ++ nin A2.ow x52.Looks L) [] ((x52, true)) (qz9) rfl (show List.Perm (nin A3.ow x52.Txns T ++ nin A2.ow x52.Looks L) ((nin A3.ow x52.Txns T ++ nin A2.ow x52.Looks L) ++ []) from B5) Af7 (E4 rfl (A8 rfl B0))
 intro h49
 refine R6 ?_
 refine A4 rfl (B2 rfl Tryz.call219 rfl (AE0 (leadFull gi) t qz8) (A1 (A0 rfl) (A1 (A0 rfl) A7))) ?_
 refine R4 ?_
 intro b16
 refine R7 ?_
 refine A6 (A0 rfl) ?_ ?_
 ·intro h59
  refine R4 ?_
  refine I1 [3, 3, 3, 3, 3, 3, 3] 3 7 (nin A3.ow w.Txns T ++ nin A2.ow w.Looks L) ([]) (fun zz => nin A3.ow w.Txns T ++ nin A2.ow w.Looks L) rfl rfl rfl rfl Tryz.call184 rfl rfl (show List.Perm (nin A3.ow w.Txns T ++ nin A2.ow w.Looks L) ((nin A3.ow w.Txns T ++ nin A2.ow w.Looks L) ++ ([])) from B5) (AF8 b w X T L p gi hx h0 hgi) (A1 (A0 rfl) (A1 (A0 rfl) A7)) (fun a => J7) ?_
  intro x62 ok62
  refine R6 ?_
  exact H3 [0, 0, 0, 0, 0, 0, 0] 3 (nin A3.ow w.Txns T ++ nin A2.ow w.Looks L) [] ((wGroup w p.toNat x62, true)) (qz9) rfl (show List.Perm (nin A3.ow w.Txns T ++ nin A2.ow w.Looks L) ((nin A3.ow w.Txns T ++ nin A2.ow w.Looks L) ++ []) from B5) Af7 (E4 rfl (A8 rfl B0))
 intro h59
 refine R11 ?_
 refine A4 rfl (B2 rfl Tryz.call248 rfl (hsh) (A1 (A0 rfl) (A1 (A0 rfl) (A1 (A0 rfl) (A1 (A0 rfl) A7))))) ?_
 refine R14 ?_
 refine I3 qz116 ?_
 refine AWP.le (C1 [3, 3, 3, 3, 3, 3, 3, 0, 0, 0] rfl) ?_
 refine J0 [(0, _), (1, _), (2, _), (3, _), (13, _), (18, _), (19, _), (75, _), (76, _)] [] (fun (i : Nat) (v : TWorld) => i ≤ ws.length ∧ WF w v) (fun (i : Nat) (v : TWorld) => [.box b 199 [AV.int v.Now, AV.int v.Count, AV.is X.cl, strs v.Cuts, AV.is X.gr, AV.is X.lo, AV.is X.pr, AV.is X.tx, AV.is X.lk], .arr X.cl 234 1 (v.Clocks.map V6.cs), .arr X.gr 178 3 (v.Groups.map TGroup.cs), .arr X.lo 203 1 (v.Locks.map fun l => [AV.list 3 (l.map H8.cs)]), .arr X.pr 3 1 (v.Promised.map fun n => [AV.int n]), .arr X.tx 143 10 (nrows A3.ocs v.Txns T), .arr X.lk 152 6 (nrows A2.ocs v.Looks L), .box b16 252 (heldFO (leadFull gi).Held t).1.cs, .box b14 148 (toldFO (leadFull gi).Told t).1.cs, .box b13 182 (leadFull gi).cs] ++ (nin A3.ow v.Txns T ++ nin A2.ow v.Looks L)) (fun (i : Nat) (v : TWorld) => [(77, AV.int i)]) (fun (i : Nat) (v : TWorld) => ws.length - i) (0) (w) ?_ (H7 (by (rw [List.append_nil]; rfl)) ⟨rfl, rfl, rfl, rfl, rfl, rfl, rfl, rfl, rfl, rfl, trivial⟩) ?_
 ·exact ⟨Nat.zero_le _, WF.refl hw⟩
 intro i v hinv
 refine I3 (List.append_nil _) ?_
 refine R5 ?_
 refine A6 (A0 rfl) ?_ ?_
 ·intro h78
  have k78 := of_decide_eq_true h78; try simp only [A5] at k78
  have hlt : i < ws.length := (by simpa using h78)
  obtain ⟨x, hxx⟩ := get_some hlt
  have hkx := (r5 (hkw x (C4 hxx))).2
  have hTv : T.length = v.Txns.length := hT.trans hinv.2.ws.txns.symm
  have hxv : v.Groups[p.toNat]? = some gi := (by rw [hinv.2.gr]; exact hx)
  have htv : (t - 1).toNat < v.Txns.length := qz8
  refine R5 ?_
  refine A4 rfl (C7 rfl C0 E5 (A0 rfl) (A0 rfl) hxx qz3) ?_
  refine R2 ?_
  intro b21
  refine R10 ?_
  refine I1 [1, 1, 1, 1, 1, 1, 1] 4 7 (nin A3.ow v.Txns T ++ nin A2.ow v.Looks L) ([]) (fun zz => nin A3.ow zz.1.Txns T ++ nin A2.ow zz.1.Looks L) rfl rfl rfl rfl Tryz.call231 rfl rfl (show List.Perm (nin A3.ow v.Txns T ++ nin A2.ow v.Looks L) ((nin A3.ow v.Txns T ++ nin A2.ow v.Looks L) ++ ([])) from B5) (Bl0 b v X T L p t x.Key true gi hinv.2.wi hTv ⟨ht.1, htv⟩ h0 hxv hl qz8) (A1 (A0 rfl) (A1 (A0 rfl) (A1 (A0 rfl) (A1 (A0 rfl) (A1 t0 A7))))) (fun a => J7) ?_
  intro x86 ok86
  refine R1 ?_
  refine A6 (A0 rfl) ?_ ?_
  ·intro h86
   refine R5 ?_
   refine G4 i v (i + 1) (x86.1) ?_ ?_ (Le.trans (C1 [7, 0, 0, 0, 0, 0, 0, 0, 0, 0, 0] rfl) (E0 1 (Eq.trans B0 (List.append_nil _).symm) ⟨rfl, rfl, rfl, rfl, rfl, rfl, rfl, rfl, rfl, rfl, trivial⟩))
   ·exact ⟨by omega, hinv.2.trans ok86⟩
   omega
  intro h86
  have hT : T.length = x86.1.Txns.length := hTv.trans ok86.ws.txns.symm
  obtain ⟨tx, htx⟩ := get_some (show (t - 1).toNat < x86.1.Txns.length by omega)
  refine R11 ?_
  refine A4 rfl (E8 5 rfl K0 N7 (A0 rfl) rfl (A0 rfl) qz8 BA2) ?_
  refine A4 rfl (I9 5 rfl H6 rfl N9 (A0 rfl) rfl rfl qz2) ?_
  refine A4 rfl (K1 5 rfl (A0 rfl) rfl g9 qz2 rfl) ?_
  refine R2 ?_
  refine A6 (A0 rfl) ?_ ?_
  ·intro h97
   refine R5 ?_
   exact H3 [0, 0, 0, 0, 0, 0, 0] 4 (nin A3.ow x86.1.Txns T ++ nin A2.ow x86.1.Looks L) [] ((x86.1, false)) (qz9) rfl (show List.Perm (nin A3.ow x86.1.Txns T ++ nin A2.ow x86.1.Looks L) ((nin A3.ow x86.1.Txns T ++ nin A2.ow x86.1.Looks L) ++ []) from B5) Af7 (E4 rfl (A8 rfl B0))
  intro h97
  refine R5 ?_
  refine I1 [0, 0, 0, 0, 0, 0, 0] 4 7 (nin A3.ow x86.1.Txns T ++ nin A2.ow x86.1.Looks L) ([]) (fun zz => nin A3.ow zz.Txns T ++ nin A2.ow zz.Looks L) rfl rfl rfl rfl Tryz.call212 rfl rfl (show List.Perm (nin A3.ow x86.1.Txns T ++ nin A2.ow x86.1.Looks L) ((nin A3.ow x86.1.Txns T ++ nin A2.ow x86.1.Looks L) ++ ([])) from B5) (AV3 b x86.1 X T L t ok86.wi hT qz8) (A1 (A0 rfl) (A1 (A0 rfl) A7)) (fun a => J7) ?_
  intro x100 ok100
  refine R6 ?_
  exact H3 [0, 0, 0, 0, 0, 0, 0] 4 (nin A3.ow x100.Txns T ++ nin A2.ow x100.Looks L) [] ((x100, true)) (qz9) rfl (show List.Perm (nin A3.ow x100.Txns T ++ nin A2.ow x100.Looks L) ((nin A3.ow x100.Txns T ++ nin A2.ow x100.Looks L) ++ []) from B5) Af7 (E4 rfl (A8 rfl B0))
 intro h78
 have k78 := of_decide_eq_false h78; try simp only [A5] at k78
 have hv := hinv.2
 have hT : T.length = v.Txns.length := hT.trans hv.ws.txns.symm
 have hx : v.Groups[p.toNat]? = some gi := (by rw [hv.gr]; exact hx)
 have hgl := (List.getElem?_eq_some_iff.1 hx).1
 obtain ⟨tx, htx⟩ := get_some (show (t - 1).toNat < v.Txns.length by omega)
 have htk := hv.wi.txns.2 tx (C4 htx)
 obtain ⟨pr, hpx⟩ := get_some (show p.toNat < v.Promised.length by rw [hv.wi.promised.1]; exact hgl)
 obtain ⟨n, hn⟩ := get_some (show p.toNat < tx.Terms.length by rw [htk.terms]; exact hgl)
 have hnl := (List.getElem?_eq_some_iff.1 hn).1
 have hpl := (List.getElem?_eq_some_iff.1 hpx).1
 refine R7 ?_
 refine A4 rfl (B2 rfl Tryz.call221 rfl (BI3 (leadFull gi) rs ws qz8 qz8) (A1 (A0 rfl) (A1 (A0 rfl) (A1 (A0 rfl) A7)))) ?_
 refine R2 ?_
 refine A6 (A0 rfl) ?_ ?_
 ·intro h106
  refine R4 ?_
  refine I1 [0, 0, 0, 0, 0, 0, 0] 3 7 (nin A3.ow v.Txns T ++ nin A2.ow v.Looks L) ([]) (fun zz => nin A3.ow zz.Txns T ++ nin A2.ow zz.Looks L) rfl rfl rfl rfl Tryz.call212 rfl rfl (show List.Perm (nin A3.ow v.Txns T ++ nin A2.ow v.Looks L) ((nin A3.ow v.Txns T ++ nin A2.ow v.Looks L) ++ ([])) from B5) (AV3 b v X T L t hv.wi hT qz8) (A1 (A0 rfl) (A1 (A0 rfl) A7)) (fun a => J7) ?_
  intro x109 ok109
  refine R6 ?_
  exact H3 [0, 0, 0, 0, 0, 0, 0] 3 (nin A3.ow x109.Txns T ++ nin A2.ow x109.Looks L) [] ((x109, true)) (qz9) rfl (show List.Perm (nin A3.ow x109.Txns T ++ nin A2.ow x109.Looks L) ((nin A3.ow x109.Txns T ++ nin A2.ow x109.Looks L) ++ []) from B5) Af7 (E4 rfl (A8 rfl B0))
 intro h106
 refine R10 ?_
 refine C3 rfl rfl (E8 4 rfl B4 B6 (A0 rfl) rfl (A0 rfl) qz8 BA2) ?_
 refine C3 rfl rfl (U7 4 rfl (A0 rfl) rfl I7 (As1 (g := AV.int) hpx)) ?_
 refine C3 rfl rfl (B2 rfl Tryz.call249 rfl (Aw6 (leadFull gi) pr qz8) (A1 (A0 rfl) (A1 (A0 rfl) A7))) ?_
 refine R20 ?_
 refine AW4 rfl rfl (S2 rfl rfl rfl) ?_ ?_
 ·intro gh134
  refine I1 [0, 0, 0, 0, 0, 0, 0] 3 7 (nin A3.ow v.Txns T ++ nin A2.ow v.Looks L) ([]) (fun zz => nin A3.ow v.Txns T ++ nin A2.ow v.Looks L) rfl rfl rfl rfl Tryz.call178 rfl rfl (show List.Perm (nin A3.ow v.Txns T ++ nin A2.ow v.Looks L) ((nin A3.ow v.Txns T ++ nin A2.ow v.Looks L) ++ ([])) from B5) (AF9 b v X T L p ⟨1, t, (Al4 (leadFull gi) pr).1, lead, rs, ws, false⟩ gi hx h0 hgi (show sizeL (fun x : Str => x.length) rs + sizeL A9.size ws ≤ 1000 by omega) hkw) (A1 (B1 rfl gh134) (A1 (B1 rfl gh134) (A1 (B1 rfl gh134) A7))) (fun a => J7) ?_
  intro x134 ok134
  refine R3 ?_
  refine A6 (A0 rfl) ?_ ?_
  ·intro h136
   refine R5 ?_
   exact H3 [0, 0, 0, 0, 0, 0, 0] 3 (nin A3.ow v.Txns T ++ nin A2.ow v.Looks L) [] ((wGroup v p.toNat x134.1, false)) (qz9) rfl (show List.Perm (nin A3.ow v.Txns T ++ nin A2.ow v.Looks L) ((nin A3.ow v.Txns T ++ nin A2.ow v.Looks L) ++ []) from B5) Af7 (E4 rfl (A8 rfl B0))
  intro h136
  refine R2 ?_
  refine I3 qz78 ?_
  refine R8 ?_
  refine A4 rfl (E8 5 rfl K0 N7 (A0 rfl) rfl (A0 rfl) qz8 BA2) ?_
  refine A4 rfl (I9 5 rfl H6 rfl N9 (A0 rfl) rfl rfl qz2) ?_
  refine T1 5 rfl rfl rfl (A0 rfl) t0 (u4 _) rfl N9 qz2 rfl ?_
  refine R2 ?_
  refine I3 qz78 ?_
  refine AWP.le (N4 10 (t := ([Go.AV.Own.arr y.1 45 3 (tx.Got.map G5.cs), Go.AV.Own.arr y.2 3 1 (tx.Terms.map fun n => [AV.int n])]) ++ (nin A3.ow (v.Txns.eraseIdx (t - 1).toNat) (T.eraseIdx (t - 1).toNat) ++ nin A2.ow v.Looks L)) (r6 htx hy)) ?_
  refine L8 21 F2 F2 rfl ?_
  refine R7 ?_
  refine C3 rfl rfl (E8 5 rfl K0 N7 (A0 rfl) rfl (A0 rfl) qz8 BA2) ?_
  refine C3 rfl rfl (I9 5 rfl H6 rfl Tryz.sizeOf25 (A0 rfl) rfl rfl qz2) ?_
  refine C3 rfl rfl (K1 5 rfl (A0 rfl) rfl Tryz.isAgg25 qz2 rfl) ?_
  refine R7 ?_
  refine C3 rfl rfl (E8 2 rfl G7 C8 (A0 rfl) rfl (A0 rfl) qz8 BA2) ?_
  refine C3 rfl rfl (I9 2 rfl Q2 rfl B6 (A0 rfl) rfl rfl qz29) ?_
  refine C3 rfl rfl (K1 2 rfl (A0 rfl) rfl I7 qz29 rfl) ?_
  refine C3 rfl rfl (E8 11 rfl B4 B6 (A0 rfl) rfl (A0 rfl) qz8 BA2) ?_
  refine R1 ?_
  refine S9 11 rfl rfl rfl (A0 rfl) (A0 rfl) (Q1 _ _) rfl B6 rfl qz3 ?_
  refine R2 ?_
  refine I3 qz78 ?_
  refine AWP.le (C1 [0, 0, 0, 0, 0, 0, 0, 0, 0, 0, 0, 0] rfl) ?_
  refine AWP.le (N4 10 (t := nin A3.ow (v.Txns.set (t - 1).toNat (Y6 (AE8 tx) p.toNat x134.1.Term)) T ++ nin A2.ow v.Looks L) ((by have h9 := BJ3 (w := v) (L := L) (p' := Y6 (AE8 tx) p.toNat x134.1.Term) (y' := y) htx hy; rw [Ae8 hy] at h9; unfold A3.ow Y6 AE8 at h9 ⊢; dsimp only at h9; rw [List.map_set] at h9; exact h9))) ?_
  refine R4 ?_
  exact H3 [0, 0, 0, 0, 0, 0, 0] 3 (nin A3.ow (v.Txns.set (t - 1).toNat (Y6 (AE8 tx) p.toNat x134.1.Term)) T ++ nin A2.ow v.Looks L) [] ((wTxn (wGroup v p.toNat x134.1) (t - 1).toNat (Y6 (AE8 tx) p.toNat x134.1.Term), true)) (qz9) rfl (show List.Perm (nin A3.ow (v.Txns.set (t - 1).toNat (Y6 (AE8 tx) p.toNat x134.1.Term)) T ++ nin A2.ow v.Looks L) ((nin A3.ow (v.Txns.set (t - 1).toNat (Y6 (AE8 tx) p.toNat x134.1.Term)) T ++ nin A2.ow v.Looks L) ++ []) from B5) Af7 (E4 rfl (A8 rfl B0))
 intro gh134
 refine AW4 rfl rfl (S2 rfl rfl rfl) (fun hq => by rw [gh134] at hq; cases hq) (fun _ => ?_)
 refine A4 rfl (w_or rfl (A0 rfl) (BO3 (x := AV.bool false) gh134)) ?_
 refine R1 ?_
 refine A6 (A0 rfl) ?_ ?_
 ·intro h136
  refine R5 ?_
  exact H3 [0, 0, 0, 0, 0, 0, 0] 3 (nin A3.ow v.Txns T ++ nin A2.ow v.Looks L) [] ((v, false)) (qz9) rfl (show List.Perm (nin A3.ow v.Txns T ++ nin A2.ow v.Looks L) ((nin A3.ow v.Txns T ++ nin A2.ow v.Looks L) ++ []) from B5) Af7 (E4 rfl (A8 rfl B0))
 intro h136
 (exfalso; have h9 := gh134; simp at h9 h136; rw [h9] at h136; cases h136)
theorem BQ4 (u : Value) (l : List Int) (s : AN5) (hl : l.length ≤ 1000) (hs : s.High ≤ 1000000 ∧ -1000000 ≤ s.High) : C9 Tryz.prog 243 [AV.is u, AV.agg s.cs] [.arr u 3 1 (l.map fun n => [AV.int n])] (fun _ : Unit => True) (fun _ => [.arr u 3 1 (l.map fun n => [AV.int n])]) (fun _ => AV.int (maxAll (s.High + 1) l)) := by
 refine C6 Tryz.func243 rfl Tryz.ntmps243 rfl ?_
 refine R3 ?_
 intro b3
 refine R17 ?_
 refine AWP.le (C1 [1] rfl) ?_
 refine J0 [(4, _), (11, _), (12, _)] _ (fun (i : Nat) (m : Int) => i ≤ l.length ∧ m = maxAll (s.High + 1) (l.take i)) (fun (i : Nat) (m : Int) => [.arr u 3 1 (l.map fun n => [AV.int n])]) (fun (i : Nat) (m : Int) => [(5, AV.int m), (13, AV.int i)]) (fun (i : Nat) (m : Int) => l.length - i) (0) (s.High + 1) ?_ (H7 B0 ⟨rfl, rfl, rfl, rfl, rfl, trivial⟩) ?_
 ·exact ⟨Nat.zero_le _, rfl⟩
 intro i m hinv
 refine R5 ?_
 refine A6 (A0 rfl) ?_ ?_
 ·intro h14
  have k14 := of_decide_eq_true h14; try simp only [A5] at k14
  have hlt : i < l.length := (by simpa using h14)
  obtain ⟨x, hx⟩ := get_some hlt
  refine R5 ?_
  refine A4 rfl (E8 0 rfl B4 B6 (A0 rfl) rfl (A0 rfl) qz8 f6) ?_
  refine A4 rfl (U7 0 rfl (A0 rfl) rfl I7 (flat1 (g := AV.int) hx)) ?_
  refine R5 ?_
  refine A4 rfl (B2 rfl Tryz.call23 rfl (Z9 _ _) (A1 (A0 rfl) (A1 (A0 rfl) A7))) ?_
  refine R6 ?_
  refine G4 i m (i + 1) (W5 m x) ?_ ?_ (Le.trans (C1 [0] rfl) (H7 B0 ⟨rfl, rfl, rfl, rfl, rfl, trivial⟩))
  ·exact ⟨by omega, by rw [Az4 hx, hinv.2]⟩
  omega
 intro h14
 have k14 := of_decide_eq_false h14; try simp only [A5] at k14
 have hge : l.length ≤ i := (by simpa using h14)
 rw [show m = maxAll (s.High + 1) l from by rw [hinv.2, List.take_of_length_le hge]]
 refine R7 ?_
 exact I0 [0] () (trivial) rfl B0 (E4 rfl (A8 rfl B0))
theorem Bs2 (u : Value) (b : Nat) (w : TWorld) (X : WX) (T : List (Value × Value)) (L : List Value) (t lead : Int) (yes : Bool) (times : List Int) (gi : TGroup) (htl9 : times.length ≤ 1000) (hw : WI w) (h0 : 0 ≤ lead) (hx : w.Groups[lead.toNat]? = some gi) : C9 Tryz.prog 229 [AV.ptr b 0, AV.int t, AV.int lead, AV.bool yes, AV.is u] (.arr u 3 1 (times.map fun n => [AV.int n]) :: WB b w X T L) (fun v : TGroup × Bool => WG v.1) (fun v => .arr u 3 1 (times.map fun n => [AV.int n]) :: WB b (wGroup w lead.toNat v.1) X T L) (fun v => AV.bool v.2) := by
 have hgi := hw.groups gi (C4 hx)
 have hng := hw.n
 have hgl := (List.getElem?_eq_some_iff.1 hx).1
 refine C6 Tryz.func229 rfl Tryz.ntmps229 rfl ?_
 refine R13 ?_
 refine A4 rfl (E8 3 rfl G7 C8 (A0 rfl) rfl (A0 rfl) qz8 f6) ?_
 refine A4 rfl (W9 3 rfl (A0 rfl) rfl J9 C8 qz6 D3) ?_
 refine A4 rfl (B2 rfl Tryz.call200 rfl (i7 gi hgi.good) (A1 (A0 rfl) A7)) ?_
 refine R2 ?_
 refine A6 (A0 rfl) ?_ ?_
 ·intro h23
  refine R5 ?_
  exact H3 [0, 0, 0, 0, 0, 0, 0, 0] 0 (nin A3.ow w.Txns T ++ nin A2.ow w.Looks L) [] ((gi, false)) (An2) rfl (show List.Perm (nin A3.ow w.Txns T ++ nin A2.ow w.Looks L) ((nin A3.ow w.Txns T ++ nin A2.ow w.Looks L) ++ []) from B5) An3 (E4 rfl (A8 rfl B0))
 intro h23
 have hrd : o6 gi = true := At6
 have hl := j6 hrd
 have hgs := m9 hgi.good hl
 have htl := hgs.tlen
 obtain ⟨c, hc, hcg, hl3, hg2, hnow, hsl, hsh⟩ := Ak6 hw h0 hx hl
 refine R6 ?_
 refine A4 rfl (X0 [1, 1, 1, 1, 1, 1, 1] 1 (nin A3.ow w.Txns T ++ nin A2.ow w.Looks L) ([]) rfl Tryz.call180 rfl rfl (B5) (y7 b w X T L lead gi hx h0 hgi.good hl) (A1 (A0 rfl) (A1 (A0 rfl) A7))) ?_
 refine R1 ?_
 refine A4 rfl (B2 rfl Tryz.call147 rfl (l7 (leadFull gi) t qz8) (A1 (A0 rfl) (A1 (A0 rfl) A7))) ?_
 refine R4 ?_
 intro b11
 refine R7 ?_
 refine A6 (A0 rfl) ?_ ?_
 ·intro h32
  refine R4 ?_
  refine I1 [2, 2, 2, 2, 2, 2, 2] 2 7 (nin A3.ow w.Txns T ++ nin A2.ow w.Looks L) ([]) (fun zz => nin A3.ow w.Txns T ++ nin A2.ow w.Looks L) rfl rfl rfl rfl Tryz.call184 rfl rfl (show List.Perm (nin A3.ow w.Txns T ++ nin A2.ow w.Looks L) ((nin A3.ow w.Txns T ++ nin A2.ow w.Looks L) ++ ([])) from B5) (AF8 b w X T L lead gi hx h0 hgi) (A1 (A0 rfl) (A1 (A0 rfl) A7)) (fun a => J7) ?_
  intro x35 ok35
  refine R6 ?_
  exact H3 [8, 0, 0, 0, 0, 0, 0, 0] 1 (nin A3.ow w.Txns T ++ nin A2.ow w.Looks L) [] ((x35, true)) (An2) rfl (show List.Perm (nin A3.ow w.Txns T ++ nin A2.ow w.Looks L) ((nin A3.ow w.Txns T ++ nin A2.ow w.Looks L) ++ []) from B5) An3 (E4 rfl (A8 rfl B0))
 intro h32
 refine R6 ?_
 intro b13
 refine R7 ?_
 refine A6 (A0 rfl) ?_ ?_
 ·intro h38
  have hput := AF9 b w X T L lead ⟨2, t, maxAll ((e8 c w.Now).High + 1) times, 0, [], [], true⟩ gi hx h0 hgi (show (0 : Nat) ≤ 1000 from by decide) (fun w9 hw9 => by cases hw9)
  refine R9 ?_
  refine A4 rfl (X0 [3, 3, 3, 3, 3, 3, 3] 3 (nin A3.ow w.Txns T ++ nin A2.ow w.Looks L) ([]) rfl Tryz.call244 rfl rfl (B5) (AT1 b w X T L lead gi c hx qz8 qz8 hc hcg hnow) (A1 (A0 rfl) (A1 (A0 rfl) A7))) ?_
  refine F0 [2] rfl rfl rfl rfl Tryz.call243 rfl (BQ4 u times (e8 c w.Now) htl9 ⟨hsh, hsl⟩) (A1 (A0 rfl) (A1 (A0 rfl) A7)) rfl ?_
  intro x44 ok44
  refine R8 ?_
  refine I1 [3, 3, 3, 3, 3, 3, 3] 3 7 (nin A3.ow w.Txns T ++ nin A2.ow w.Looks L) ([]) (fun zz => nin A3.ow w.Txns T ++ nin A2.ow w.Looks L) rfl rfl rfl rfl Tryz.call178 rfl rfl (show List.Perm (nin A3.ow w.Txns T ++ nin A2.ow w.Looks L) ((nin A3.ow w.Txns T ++ nin A2.ow w.Looks L) ++ ([])) from B5) (hput) (A1 (A0 rfl) (A1 (A0 rfl) (A1 (q7 (A0 rfl) AL0) A7))) (fun a => J7) ?_
  intro x49 ok49
  refine R3 ?_
  exact H3 [7, 0, 0, 0, 0, 0, 0, 0] 2 (nin A3.ow w.Txns T ++ nin A2.ow w.Looks L) [] ((x49.1, x49.2)) (An2) rfl (show List.Perm (nin A3.ow w.Txns T ++ nin A2.ow w.Looks L) ((nin A3.ow w.Txns T ++ nin A2.ow w.Looks L) ++ []) from B5) An3 (E4 rfl (A8 rfl B0))
 intro h38
 have hput := AF9 b w X T L lead ⟨2, t, 0, 0, [], [], false⟩ gi hx h0 hgi (show (0 : Nat) ≤ 1000 from by decide) (fun w9 hw9 => by cases hw9)
 refine R6 ?_
 refine I1 [3, 3, 3, 3, 3, 3, 3] 3 7 (nin A3.ow w.Txns T ++ nin A2.ow w.Looks L) ([]) (fun zz => nin A3.ow w.Txns T ++ nin A2.ow w.Looks L) rfl rfl rfl rfl Tryz.call178 rfl rfl (show List.Perm (nin A3.ow w.Txns T ++ nin A2.ow w.Looks L) ((nin A3.ow w.Txns T ++ nin A2.ow w.Looks L) ++ ([])) from B5) (hput) (A1 (A0 rfl) (A1 (A0 rfl) (A1 (q7 (A0 rfl) AL0) A7))) (fun a => J7) ?_
 intro x49 ok49
 refine R3 ?_
 exact H3 [9, 0, 0, 0, 0, 0, 0, 0] 2 (nin A3.ow w.Txns T ++ nin A2.ow w.Looks L) [] ((x49.1, x49.2)) (An2) rfl (show List.Perm (nin A3.ow w.Txns T ++ nin A2.ow w.Looks L) ((nin A3.ow w.Txns T ++ nin A2.ow w.Looks L) ++ []) from B5) An3 (E4 rfl (A8 rfl B0))
end Go.Proofs.YtcfkbhnpfjjmjaaGreat
