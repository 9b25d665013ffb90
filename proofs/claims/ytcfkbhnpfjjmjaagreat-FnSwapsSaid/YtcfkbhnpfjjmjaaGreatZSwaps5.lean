/- Texts of the claim, part 5. -/
import Derived.RangeFuncNested
import Derived.RangeFuncBound
import Derived.RangeFuncCalls
import Derived.RangeFuncLeaves
import Derived.RangeFuncBox
import Derived.Shelf.Abstract
import Derived.Shelf.RegionOpen
import Derived.WalkKit
import Derived.OwnWalkIn
import Derived.TacticsInMore
import Derived.LoopNIn
import Derived.LoopIn
import Derived.Shelf.Strconv.Itoa3
import Derived.Test.YtcfkbhnpfjjmjaaGreatProg
import Derived.Test.YtcfkbhnpfjjmjaaGreatZSwaps4
set_option linter.unusedVariables false
set_option linter.unusedSimpArgs false
set_option maxRecDepth 100000
set_option maxHeartbeats 4000000
namespace Go.M
open Go.AV
def o9 (many : Int) : TGroup × Bool := if AF7 many = true then (⟨List.replicate many.toNat ⟨true, [], 0⟩, 0, -1⟩, true) else (zGroup, false)
theorem Bj2 {p : Nat → Bool} {lo n : Nat} (h : lo < n) (hp : p n = true) : findDown p lo n = some n := by
  cases n with
  | zero => omega
  | succ k => unfold findDown; rw [if_neg qz8, if_pos hp]
theorem Bq8 {p : Nat → Bool} {lo n : Nat} (h : lo < n) (hp : ¬ p n = true) : findDown p lo n = findDown p lo (n - 1) := by
  cases n with
  | zero => omega
  | succ k => conv => { lhs; unfold findDown }; rw [if_neg qz8, if_neg hp]; rfl
theorem CB2 (a b c : Int) : Aa7 a (if b < c then c else b) = min a (max b c) := by
  unfold Aa7; rw [Int.min_def, Int.max_def]; split <;> split <;> split <;> omega
end Go.M
namespace Go.Proofs.YtcfkbhnpfjjmjaaGreat
open Go Go.AV Go.M
attribute [local irreducible] OpW OpA OpS AWP B9 J5 C8 OpE RetOk H1 I9 Le Ev F6 J9 V9 Int.tmod Int.tdiv IntKind.wrap bandI
theorem Ad0 (g : TGroup) (r : Int) (up : Bool) (hs : g.size ≤ 1048576) : B9 Tryz.prog 188 [AV.agg g.cs, AV.int r, AV.bool up] (AV.bool (isUp g r up)) := by
  have hrs : sizeL F0.size g.Reps ≤ 1048576 := hs
  have hll : g.Reps.length ≤ 1048576 := Nat.le_trans L7 hrs
  have hir : within r 0 (((g.Reps.map F0.cs).length : Int) - 1) = isRep g r := by unfold isRep; rw [A5]
  refine B7 Tryz.func188 rfl Tryz.ntmps188 rfl ?_
  refine R3 ?_
  intro b3
  refine R5 ?_
  refine A4 rfl (B2 rfl Tryz.call205 rfl (AD3 _ T0) (A1 (A0 rfl) A7)) ?_
  refine R6 ?_
  refine L3 rfl (fun hc => B2 rfl Tryz.call30 rfl (N5 _ _ _) (A1 (B1 rfl hc) (A1 D8 (A1 (B1 rfl hc) A7)))) ?_
  refine R5 ?_
  refine L3 rfl (fun hc => C7 rfl F8 I6 (B1 rfl hc) (B1 rfl hc) (c0 (AT7.1 (hir ▸ Bd7 hc))) (by have h9 := (AT7.1 (hir ▸ Bd7 hc)).1; omega)) ?_
  refine R3 ?_
  refine L3 rfl (fun hc => Ag1 rfl T4 (B1 rfl hc) (B1 rfl hc)) ?_
  refine R4 ?_
  exact D5 rfl (A6 rfl (by exact congrArg AV.bool (by rw [hir]; rfl)))
theorem Bj3 (g : TGroup) (r : Int) (hs : g.size ≤ 1048576) : C8 Tryz.prog 192 [AV.agg g.cs, AV.int r] [] (fun _ : Value => True) (fun v => TGroup.fow (crashR g r).1 v) (fun v => AV.tup [AV.agg (TGroup.fcs (crashR g r).1 v), AV.bool (crashR g r).2]) := by
 refine C3 Tryz.func192 rfl Tryz.ntmps192 rfl ?_
 refine R3 ?_
 intro b2
 refine R1 ?_
 intro b4
 refine R7 ?_
 refine A4 rfl (B2 rfl Tryz.call188 rfl (Ad0 _ _ _ T0) (A1 (A0 rfl) (A1 (A0 rfl) (A1 w5 A7)))) ?_
 refine R2 ?_
 refine A8 (A0 rfl) ?_ ?_
 ·intro h10
  have he : crashR g r = (zGroup, false) := (by unfold crashR; rw [if_neg AD1])
  rw [he]
  refine R7 ?_
  refine W7 207 3 ?_
  exact G1 [0] (Value.slice none 0 0) (trivial) rfl qz91 (N4 rfl D0 (B6 (G7 (ys := _) 1 rfl rfl K3 C9 rfl) (B6 (A6 rfl B0) E8)))
 intro h10
 have hu : isUp g r true = true := AD1
 obtain ⟨gg, hr, hup⟩ := AE7.1 hu
 have hx := c0 hr
 have he : crashR g r = (⟨g.Reps.set r.toNat ⟨false, (repAt g r).Log, (repAt g r).Sure⟩, g.Term, if g.Lead = r then -1 else g.Lead⟩, true) := if_pos hu
 rw [he]
 refine R4 ?_
 refine E4 [] rfl rfl rfl rfl Tryz.call166 rfl (AM0 g hs) (A1 (A0 rfl) A7) rfl ?_
 intro x13 ok13
 refine R1 ?_
 intro b6
 refine R7 ?_
 refine A4 rfl (D7 1 rfl F8 I6 (A0 rfl) rfl (A0 rfl) qz8 M3) ?_
 refine A4 rfl (J2 1 rfl Z4 rfl O9 (A0 rfl) rfl rfl qz5) ?_
 refine T3 1 rfl rfl rfl (A0 rfl) w5 (y7 _) rfl O9 qz5 rfl ?_
 refine R9 ?_
 refine A8 (A0 rfl) ?_ ?_
 ·intro h22
  have k22 := D2 h22; try simp only [A5] at k22
  rw [if_pos k22]
  refine R11 ?_
  exact G1 [1] x13 (trivial) rfl qz91 (N4 rfl D0 (B6 (G7 (ys := _) 2 rfl rfl K3 C9 rfl) (B6 (A6 rfl B0) E8)))
 intro h22
 have k22 := D6 h22; try simp only [A5] at k22
 rw [if_neg k22]
 refine R8 ?_
 exact G1 [1] x13 (trivial) rfl qz91 (N4 rfl D0 (B6 (G7 (ys := _) 2 rfl rfl K3 C9 rfl) (B6 (A6 rfl B0) E8)))
theorem Ba7 (g : TGroup) (r : Int) (hs : g.size ≤ 1048576) : B9 Tryz.prog 192 [AV.agg g.cs, AV.int r] (AV.tup [AV.agg (crashR g r).1.cs, AV.bool (crashR g r).2]) :=
  K2 (Bj3 g r hs) fun v _ => p4 (D1 (TGroup.fl _ v) (D1 H0 V2))
theorem Bj4 (g : TGroup) (r : Int) (hs : g.size ≤ 1048576) : C8 Tryz.prog 193 [AV.agg g.cs, AV.int r] [] (fun _ : Value => True) (fun v => TGroup.fow (startR g r).1 v) (fun v => AV.tup [AV.agg (TGroup.fcs (startR g r).1 v), AV.bool (startR g r).2]) := by
 refine C3 Tryz.func193 rfl Tryz.ntmps193 rfl ?_
 refine R3 ?_
 intro b2
 refine R1 ?_
 intro b4
 refine R7 ?_
 refine A4 rfl (B2 rfl Tryz.call188 rfl (Ad0 _ _ _ T0) (A1 (A0 rfl) (A1 (A0 rfl) (A1 w5 A7)))) ?_
 refine R2 ?_
 refine A8 (A0 rfl) ?_ ?_
 ·intro h10
  have he : startR g r = (zGroup, false) := (by unfold startR; rw [if_neg AD1])
  rw [he]
  refine R7 ?_
  refine W7 207 3 ?_
  exact G1 [0] (Value.slice none 0 0) (trivial) rfl qz91 (N4 rfl D0 (B6 (G7 (ys := _) 1 rfl rfl K3 C9 rfl) (B6 (A6 rfl B0) E8)))
 intro h10
 have hu : isUp g r false = true := AD1
 obtain ⟨gg, hr, hup⟩ := AE7.1 hu
 have hx := c0 hr
 have he : startR g r = (⟨g.Reps.set r.toNat ⟨true, (repAt g r).Log, (repAt g r).Sure⟩, g.Term, g.Lead⟩, true) := if_pos hu
 rw [he]
 refine R4 ?_
 refine E4 [] rfl rfl rfl rfl Tryz.call166 rfl (AM0 g hs) (A1 (A0 rfl) A7) rfl ?_
 intro x13 ok13
 refine R1 ?_
 intro b6
 refine R7 ?_
 refine A4 rfl (D7 1 rfl F8 I6 (A0 rfl) rfl (A0 rfl) qz8 M3) ?_
 refine A4 rfl (J2 1 rfl Z4 rfl O9 (A0 rfl) rfl rfl qz5) ?_
 refine T3 1 rfl rfl rfl (A0 rfl) w5 (y7 _) rfl O9 qz5 rfl ?_
 refine R8 ?_
 exact G1 [1] x13 (trivial) rfl qz91 (N4 rfl D0 (B6 (G7 (ys := _) 2 rfl rfl K3 C9 rfl) (B6 (A6 rfl B0) E8)))
theorem Ba8 (g : TGroup) (r : Int) (hs : g.size ≤ 1048576) : B9 Tryz.prog 193 [AV.agg g.cs, AV.int r] (AV.tup [AV.agg (startR g r).1.cs, AV.bool (startR g r).2]) :=
  K2 (Bj4 g r hs) fun v _ => p4 (D1 (TGroup.fl _ v) (D1 H0 V2))
theorem AS4 (l : List J4) : B9 Tryz.prog 206 [AV.list 8 (l.map J4.cs)] (AV.int (v9 l)) := by
 refine B7 Tryz.func206 rfl Tryz.ntmps206 rfl ?_
 refine S0 (t := 0) rfl fun hl => ?_
 try simp only [A5] at hl
 refine R11 ?_
 refine A8 (A0 rfl) ?_ ?_
 ·intro h5
  have k5 := D2 h5; try simp only [A5] at k5
  rw [CB1 (show l.length = 0 by omega)]
  refine R5 ?_
  exact D5 rfl (A6 rfl B0)
 intro h5
 have k5 := D6 h5; try simp only [A5] at k5
 obtain ⟨e, hx⟩ := get_some (show l.length - 1 < l.length by omega)
 have hx2 : l[(((l.map J4.cs).length : Int) - 1).toNat]? = some e := (by rw [A5, show ((l.length : Int) - 1).toNat = l.length - 1 by omega]; exact hx)
 rw [CI5 hx]
 refine R7 ?_
 refine A4 rfl (C7 rfl N6 T6 (A0 rfl) (A0 rfl) hx2 Ai3) ?_
 refine R5 ?_
 exact D5 rfl (A6 rfl B0)
theorem Bj5 (a b : List J4) : B9 Tryz.prog 189 [AV.list 8 (a.map J4.cs), AV.list 8 (b.map J4.cs)] (AV.bool (AR4 a b)) := by
 refine B7 Tryz.func189 rfl Tryz.ntmps189 rfl ?_
 refine R8 ?_
 refine A4 rfl (B2 rfl Tryz.call206 rfl (AS4 _) (A1 (A0 rfl) A7)) ?_
 refine R1 ?_
 refine A4 rfl (B2 rfl Tryz.call206 rfl (AS4 _) (A1 (A0 rfl) A7)) ?_
 refine R2 ?_
 refine A8 (A0 rfl) ?_ ?_
 ·intro h9
  have k9 := AT0 h9; try simp only [A5] at k9
  have he : AR4 a b = decide (v9 b < v9 a) := (by unfold AR4; rw [beq_eq_false_iff_ne.2 k9]; simp)
  rw [he]
  refine R3 ?_
  refine A4 rfl (B2 rfl Tryz.call206 rfl (AS4 _) (A1 (A0 rfl) A7)) ?_
  refine R1 ?_
  refine A4 rfl (B2 rfl Tryz.call206 rfl (AS4 _) (A1 (A0 rfl) A7)) ?_
  refine R4 ?_
  exact D5 rfl (A6 rfl (by first | rfl | (rw [A5, A5])))
 intro h9
 have k9 := s4 h9; try simp only [A5] at k9
 have he : AR4 a b = decide ((b.length : Int) < (a.length : Int)) := (by unfold AR4; rw [k9]; simp)
 rw [he]
 refine R11 ?_
 exact D5 rfl (A6 rfl (by first | rfl | (rw [A5, A5])))
theorem Bj6 (g : TGroup) (r : Int) (hs : g.size ≤ 1048576) : C8 Tryz.prog 177 [AV.agg g.cs, AV.int r] [] (fun _ : Value => True) (fun v => TGroup.fow (electR g r).1 v) (fun v => AV.tup [AV.agg (TGroup.fcs (electR g r).1 v), AV.bool (electR g r).2]) := by
 refine C3 Tryz.func177 rfl Tryz.ntmps177 rfl ?_
 refine R3 ?_
 intro b2
 refine R1 ?_
 intro b4
 refine R7 ?_
 refine A4 rfl (B2 rfl Tryz.call188 rfl (Ad0 _ _ _ T0) (A1 (A0 rfl) (A1 (A0 rfl) (A1 w5 A7)))) ?_
 refine R7 ?_
 refine A8 (A0 rfl) ?_ ?_
 ·intro h17
  have he : electR g r = (zGroup, false) := (by unfold electR; rw [if_neg (by rintro ⟨a, b⟩; simp only [Bool.and_eq_true, Bool.not_eq_true'] at a; rw [a.1, a.2] at h17; cases h17)])
  rw [he]
  refine R7 ?_
  refine W7 207 3 ?_
  exact G1 [0] (Value.slice none 0 0) (trivial) rfl B0 (N4 rfl D0 (B6 (G7 (ys := _) 1 rfl rfl K3 C9 rfl) (B6 (A6 rfl B0) E8)))
 intro h17
 have hh := h17
 simp only [Bool.or_eq_false_iff, Bool.not_eq_false'] at hh
 obtain ⟨hu, ht⟩ := hh
 obtain ⟨gg, hr, hup⟩ := AE7.1 hu
 have hxr := c0 hr
 have hll : g.Reps.length ≤ 5 := (by have h9 := gg.many; omega)
 have htm := gg.term
 refine R11 ?_
 refine J7 [(1, _), (2, _), (4, _), (5, _)] _ (fun (i : Nat) (m : Nat) => i ≤ g.Reps.length ∧ m ≤ i ∧ m = ((g.Reps.take i).filter fun x => x.Up && !AR4 x.Log (repAt g r).Log).length) (fun (i : Nat) (m : Nat) => []) (fun (i : Nat) (m : Nat) => [(6, AV.int m), (7, AV.int i)]) (fun (i : Nat) (m : Nat) => g.Reps.length - i) (0) (0) ?_ (F2 ⟨rfl, rfl, rfl, rfl, rfl, rfl, trivial⟩) ?_
 ·exact ⟨Nat.zero_le _, Nat.le_refl _, rfl⟩
 intro i m hinv
 refine R9 ?_
 refine A8 (A0 rfl) ?_ ?_
 ·intro h23
  have k23 := of_decide_eq_true h23; try simp only [A5] at k23
  have hlt : i < g.Reps.length := Ai2
  obtain ⟨x, hx⟩ := get_some hlt
  refine R8 ?_
  refine C2 rfl rfl (C7 rfl F8 I6 (A0 rfl) (A0 rfl) hx qz4) ?_
  refine R6 ?_
  refine M6 rfl (O4 rfl rfl rfl) (fun hc => C7 rfl F8 I6 (B1 rfl hc) (B1 rfl hc) hx qz6) ?_
  refine R5 ?_
  refine M6 rfl (O4 rfl rfl rfl) (fun hc => C7 rfl F8 I6 (B1 rfl hc) (B1 rfl hc) hxr qz8) ?_
  refine R2 ?_
  refine M6 rfl (O4 rfl rfl rfl) (fun hc => B2 rfl Tryz.call189 rfl (Bj5 _ _) (A1 (B1 rfl hc) (A1 (B1 rfl hc) A7))) ?_
  refine R3 ?_
  refine A8 (A0 rfl) ?_ ?_
  ·intro h47
   refine R10 ?_
   refine G9 i m (i + 1) (m + 1) ?_ ?_ (F2 ⟨rfl, rfl, rfl, rfl, rfl, rfl, trivial⟩)
   ·exact ⟨by omega, by omega, by rw [AD2 hx, if_pos h47, hinv.2.2]⟩
   omega
  intro h47
  refine R6 ?_
  refine G9 i m (i + 1) (m) ?_ ?_ (F2 ⟨rfl, rfl, rfl, rfl, rfl, rfl, trivial⟩)
  ·exact ⟨by omega, by omega, by rw [AD2 hx, if_neg (by rw [h47]; decide), Nat.add_zero]; exact hinv.2.2⟩
  omega
 intro h23
 have k23 := of_decide_eq_false h23; try simp only [A5] at k23
 have hge : g.Reps.length ≤ i := Ai2
 have hm := hinv.2.2
 rw [List.take_of_length_le hge] at hm
 refine R5 ?_
 refine A4 rfl (AT1 rfl D8 (A0 rfl) qz4) ?_
 refine R5 ?_
 refine A8 (A0 rfl) ?_ ?_
 ·intro h55
  have k55 := of_decide_eq_true h55; try simp only [A5] at k55
  have he : electR g r = (zGroup, false) := (by unfold electR; rw [if_neg (by rintro ⟨a, b⟩; unfold Av6 at b; have h9 := of_decide_eq_true b; rw [← hm] at h9; omega)])
  rw [he]
  refine R7 ?_
  refine W7 207 3 ?_
  exact G1 [0] (Value.slice none 0 0) (trivial) rfl B0 (N4 rfl D0 (B6 (G7 (ys := _) 1 rfl rfl K3 C9 rfl) (B6 (A6 rfl B0) E8)))
 intro h55
 have k55 := of_decide_eq_false h55; try simp only [A5] at k55
 have he : electR g r = (⟨g.Reps, g.Term + 1, r⟩, true) := (by unfold electR; rw [if_pos ⟨by rw [hu, ht]; rfl, by unfold Av6; rw [← hm]; exact decide_eq_true qz8⟩])
 rw [he]
 refine R4 ?_
 refine E4 [] rfl rfl rfl rfl Tryz.call166 rfl (AM0 g hs) (A1 (A0 rfl) A7) rfl ?_
 intro x58 ok58
 refine R1 ?_
 intro b8
 refine R23 ?_
 exact G1 [1] x58 (trivial) rfl B0 (N4 rfl D0 (B6 (G7 (ys := _) 2 rfl rfl K3 C9 rfl) (B6 (A6 rfl B0) E8)))
theorem Ba9 (g : TGroup) (r : Int) (hs : g.size ≤ 1048576) : B9 Tryz.prog 177 [AV.agg g.cs, AV.int r] (AV.tup [AV.agg (electR g r).1.cs, AV.bool (electR g r).2]) :=
  K2 (Bj6 g r hs) fun v _ => p4 (D1 (TGroup.fl _ v) (D1 H0 V2))
theorem CB3 (g : TGroup) (r : Int) (hs : g.size ≤ 1048576) : C8 Tryz.prog 194 [AV.agg g.cs, AV.int r] [] (fun _ : Value => True) (fun v => TGroup.fow (j5 g r).1 v) (fun v => AV.tup [AV.agg (TGroup.fcs (j5 g r).1 v), AV.bool (j5 g r).2]) := by
 refine C3 Tryz.func194 rfl Tryz.ntmps194 rfl ?_
 refine R3 ?_
 intro b2
 refine R1 ?_
 intro b4
 refine R7 ?_
 refine A4 rfl (B2 rfl Tryz.call188 rfl (Ad0 _ _ _ T0) (A1 (A0 rfl) (A1 (A0 rfl) (A1 w5 A7)))) ?_
 refine R13 ?_
 refine A8 (A0 rfl) ?_ ?_
 ·intro h22
  have he : j5 g r = (zGroup, false) := (by unfold j5; rw [if_neg (by rintro ⟨a, b⟩; simp only [Bool.and_eq_true, decide_eq_true_eq] at a; rw [a.1, decide_eq_false (show ¬ g.Lead < 0 by omega), beq_eq_false_iff_ne.2 b] at h22; cases h22)])
  rw [he]
  refine R7 ?_
  refine W7 207 3 ?_
  exact G1 [0] (Value.slice none 0 0) (trivial) rfl qz175 (N4 rfl D0 (B6 (G7 (ys := _) 1 rfl rfl K3 C9 rfl) (B6 (A6 rfl B0) E8)))
 intro h22
 have hh := h22
 simp only [Bool.or_eq_false_iff, Bool.not_eq_false', decide_eq_false_iff_not, beq_eq_false_iff_ne] at hh
 obtain ⟨⟨hu, hl0⟩, hne⟩ := hh
 obtain ⟨gg, hr, hup⟩ := AE7.1 hu
 have hld : 0 ≤ g.Lead ∧ g.Lead < g.Reps.length := (by rcases gg.lead with e | ⟨a, b, _⟩; omega; exact ⟨a, b⟩)
 have hxr := c0 hr
 have hxl := c0 hld
 have hls : sizeL J4.size (repAt g g.Lead).Log ≤ 1048576 := Nat.le_trans (X1 (f := F0.size) hxl) hs
 have he : j5 g r = (setRep g r ⟨true, (repAt g g.Lead).Log, min ((repAt g g.Lead).Log.length : Int) (max (repAt g r).Sure (repAt g g.Lead).Sure)⟩, true) := (by unfold j5; rw [if_pos ⟨by rw [hu, decide_eq_true qz8]; rfl, hne⟩])
 rw [he, ← CB2]
 refine R4 ?_
 refine E4 [] rfl rfl rfl rfl Tryz.call166 rfl (AM0 g hs) (A1 (A0 rfl) A7) rfl ?_
 intro x25 ok25
 refine R1 ?_
 intro b6
 refine R8 ?_
 refine A4 rfl (C7 rfl F8 I6 (A0 rfl) (A0 rfl) hxl qz8) ?_
 refine R2 ?_
 refine A4 rfl (B2 rfl Tryz.call182 rfl (AV0 _ hls) (A1 (A0 rfl) A7)) ?_
 refine R3 ?_
 refine L6 23 F1 F1 rfl ?_
 refine R9 ?_
 refine C2 rfl rfl (C7 rfl F8 I6 (A0 rfl) (A0 rfl) hxr qz8) ?_
 refine R6 ?_
 refine C2 rfl rfl (C7 rfl F8 I6 (A0 rfl) (A0 rfl) hxl qz8) ?_
 refine R2 ?_
 refine C2 rfl rfl (B2 rfl Tryz.call23 rfl (At8 _ _) (A1 (A0 rfl) (A1 (A0 rfl) A7))) ?_
 refine C2 rfl rfl (B2 rfl Tryz.call208 rfl (Bi8 _ _) (A1 (A0 rfl) (A1 (A0 rfl) A7))) ?_
 refine R1 ?_
 refine C2 rfl rfl (D7 1 rfl F8 I6 (A0 rfl) rfl (A0 rfl) qz8 M3) ?_
 refine R1 ?_
 refine N3 1 rfl rfl rfl (A0 rfl) (A0 rfl) (U4 _) rfl I6 rfl g9 ?_
 refine R8 ?_
 exact G1 [1] x25 (trivial) rfl qz175 (N4 rfl D0 (B6 (G7 (ys := _) 2 rfl rfl K3 C9 rfl) (B6 (A6 rfl B0) E8)))
theorem Bq9 (g : TGroup) (r : Int) (hs : g.size ≤ 1048576) : B9 Tryz.prog 194 [AV.agg g.cs, AV.int r] (AV.tup [AV.agg (j5 g r).1.cs, AV.bool (j5 g r).2]) :=
  K2 (CB3 g r hs) fun v _ => p4 (D1 (TGroup.fl _ v) (D1 H0 V2))
theorem Br0 (g : TGroup) (l : List J4) (n : Nat) (hs : g.size ≤ 1048576) (hn : n ≤ 1048576) : B9 Tryz.prog 209 [AV.agg g.cs, AV.list 8 (l.map J4.cs), AV.int (n : Int)] (AV.int ((g.Reps.filter fun x => begins x.Log l n).length : Nat)) := by
 have hll : g.Reps.length ≤ 1048576 := Nat.le_trans (L7 (f := F0.size)) hs
 refine B7 Tryz.func209 rfl Tryz.ntmps209 rfl ?_
 refine R3 ?_
 intro b3
 refine R12 ?_
 refine J7 [(1, _), (2, _), (3, _), (6, _)] _ (fun (i : Nat) (m : Nat) => i ≤ g.Reps.length ∧ m ≤ i ∧ m = ((g.Reps.take i).filter fun x => begins x.Log l n).length) (fun (i : Nat) (m : Nat) => []) (fun (i : Nat) (m : Nat) => [(7, AV.int m), (8, AV.int i)]) (fun (i : Nat) (m : Nat) => g.Reps.length - i) (0) (0) ?_ (F2 ⟨rfl, rfl, rfl, rfl, rfl, rfl, trivial⟩) ?_
 ·exact ⟨Nat.zero_le _, Nat.le_refl _, rfl⟩
 intro i m hinv
 refine R9 ?_
 refine A8 (A0 rfl) ?_ ?_
 ·intro h13
  have k13 := of_decide_eq_true h13; try simp only [A5] at k13
  have hlt : i < g.Reps.length := Av9
  obtain ⟨x, hx⟩ := get_some hlt
  refine R8 ?_
  refine A4 rfl (C7 rfl F8 I6 (A0 rfl) (A0 rfl) hx qz4) ?_
  refine R4 ?_
  refine A4 rfl (B2 rfl Tryz.call227 rfl (Ba5 x.Log l n (Nat.le_trans (X1 (f := F0.size) hx) hs) hn) (A1 (A0 rfl) (A1 (A0 rfl) (A1 (A0 rfl) A7)))) ?_
  refine R1 ?_
  refine A8 (A0 rfl) ?_ ?_
  ·intro h24
   refine R10 ?_
   refine G9 i m (i + 1) (m + 1) ?_ ?_ (F2 ⟨rfl, rfl, rfl, rfl, rfl, rfl, trivial⟩)
   ·exact ⟨by omega, by omega, by rw [AD2 hx, if_pos h24, hinv.2.2]⟩
   omega
  intro h24
  refine R6 ?_
  refine G9 i m (i + 1) (m) ?_ ?_ (F2 ⟨rfl, rfl, rfl, rfl, rfl, rfl, trivial⟩)
  ·exact ⟨by omega, by omega, by rw [AD2 hx, if_neg (by rw [h24]; decide), Nat.add_zero]; exact hinv.2.2⟩
  omega
 intro h13
 have k13 := of_decide_eq_false h13; try simp only [A5] at k13
 have hge : g.Reps.length ≤ i := Av9
 have hm := hinv.2.2
 rw [List.take_of_length_le hge] at hm
 rw [← hm]
 refine R7 ?_
 exact D5 rfl (A6 rfl B0)
theorem Br1 (g : TGroup) (hs : g.size ≤ 1048576) : C8 Tryz.prog 195 [AV.agg g.cs] [] (fun _ : Value => True) (fun v => TGroup.fow (o5 g).1 v) (fun v => AV.tup [AV.agg (TGroup.fcs (o5 g).1 v), AV.bool (o5 g).2]) := by
 refine C3 Tryz.func195 rfl Tryz.ntmps195 rfl ?_
 refine R3 ?_
 intro b1
 refine R1 ?_
 intro b2
 refine R6 ?_
 refine A4 rfl (B2 rfl Tryz.call205 rfl (AD3 _ T0) (A1 (A0 rfl) A7)) ?_
 refine R7 ?_
 refine A8 (A0 rfl) ?_ ?_
 ·intro h14
  have he : o5 g = (zGroup, false) := (by unfold o5; rw [if_neg (by unfold hasLead; intro a; simp only [Bool.and_eq_true, decide_eq_true_eq] at a; rw [a.1, decide_eq_false (show ¬ g.Lead < 0 by omega)] at h14; cases h14)])
  rw [he]
  refine R7 ?_
  refine W7 207 3 ?_
  exact G1 [0] (Value.slice none 0 0) (trivial) rfl qz139 (N4 rfl D0 (B6 (G7 (ys := _) 1 rfl rfl K3 C9 rfl) (B6 (A6 rfl B0) E8)))
 intro h14
 have hh := h14
 simp only [Bool.or_eq_false_iff, Bool.not_eq_false', decide_eq_false_iff_not] at hh
 have hlead : hasLead g = true := (by unfold hasLead; rw [hh.1, decide_eq_true qz8]; rfl)
 obtain ⟨gg, l0, l1, hup⟩ := AI5.1 hlead
 have hxl := c0 ⟨l0, l1⟩
 have hgr := gg.reps _ (f7 ⟨l0, l1⟩)
 obtain ⟨L, hL⟩ : ∃ L, repAt g g.Lead = L := ⟨_, rfl⟩
 rw [hL] at hxl hgr
 have hsr := hgr.sure
 have hl6 := hgr.len
 have hm5 : g.Reps.length ≤ 5 := (by have h9 := gg.many; omega)
 refine R4 ?_
 refine E4 [] rfl rfl rfl rfl Tryz.call166 rfl (AM0 g hs) (A1 (A0 rfl) A7) rfl ?_
 intro x17 ok17
 refine R1 ?_
 intro b4
 refine R8 ?_
 refine A4 rfl (C7 rfl F8 I6 (A0 rfl) (A0 rfl) hxl qz8) ?_
 refine R2 ?_
 intro b5
 refine R8 ?_
 try rw [show AV.ik IntKind.i64 ((n : Int) - 1) = AV.int ((n - 1 : Nat) : Int) from congrArg AV.int (show (n : Int) - 1 = ((n - 1 : Nat) : Int) by omega)]
 refine R3 ?_
 rw [show (List.map J4.cs L.Log).length = L.Log.length from A5 _]
 refine E5 [(1, _), (2, _), (4, _), (5, _)] _ (fun (n : Nat) => n ≤ L.Log.length ∧ findDown (AO8 g) L.Sure.toNat L.Log.length = findDown (AO8 g) L.Sure.toNat n) (fun (n : Nat) => []) (fun (n : Nat) => [(6, AV.int n)]) (fun (n : Nat) => n) (L.Log.length) ?_ (F2 ⟨rfl, rfl, rfl, rfl, rfl, trivial⟩) ?_
 ·exact ⟨Nat.le_refl _, rfl⟩
 intro n hinv
 refine R8 ?_
 refine A8 (A0 rfl) ?_ ?_
 ·intro h30
  have k30 := of_decide_eq_true h30; try simp only [A5] at k30
  have hgt : L.Sure.toNat < n := by omega
  obtain ⟨x, hx⟩ := get_some (show n - 1 < L.Log.length by omega)
  have hx2 : L.Log[((n : Int) - 1).toNat]? = some x := (by rw [show ((n : Int) - 1).toNat = n - 1 by omega]; exact hx)
  have hadv : AO8 g n = ((x.Term == g.Term) && decide ((g.Reps.length : Int) < 2 * ((g.Reps.filter fun x => begins x.Log L.Log n).length : Int))) := (by unfold AO8 Av6; rw [hL, hx, Option.map_some]; congr 1; rw [Bool.eq_iff_iff, decide_eq_true_eq, beq_iff_eq]; exact ⟨fun e => by injection e, fun e => by rw [e]⟩)
  have hcnt := List.length_filter_le (fun x => begins x.Log L.Log n) g.Reps
  refine R9 ?_
  refine C2 rfl rfl (C7 rfl N6 T6 (A0 rfl) (A0 rfl) hx2 qz8) ?_
  refine R10 ?_
  refine M6 rfl (O4 rfl rfl rfl) (fun hc => B2 rfl Tryz.call209 rfl (Br0 _ _ _ T0 T0) (A1 (B1 rfl hc) (A1 (B1 rfl hc) (A1 (B1 rfl hc) A7)))) ?_
  refine M6 rfl (O4 rfl rfl rfl) (fun hc => AT1 rfl D8 (B1 rfl hc) qz6) ?_
  refine R6 ?_
  refine A8 (A0 rfl) ?_ ?_
  ·intro h54
   have hp : AO8 g n = true := (by rw [hadv]; simpa using h54)
   have hfin : findDown (AO8 g) L.Sure.toNat L.Log.length = some n := (by rw [hinv.2]; exact Bj2 hgt hp)
   have he : o5 g = (setRep g g.Lead ⟨L.Up, L.Log, (n : Int)⟩, true) := (by unfold o5; rw [if_pos hlead, hL, hfin])
   rw [he]
   refine R7 ?_
   refine A4 rfl (D7 2 rfl F8 I6 (A0 rfl) rfl (A0 rfl) qz8 M3) ?_
   refine A4 rfl (J2 2 rfl Z4 rfl B4 (A0 rfl) rfl rfl qz88) ?_
   refine T3 2 rfl rfl rfl (A0 rfl) (A0 rfl) (M5 _ _) rfl B4 qz88 rfl ?_
   refine R8 ?_
   exact G1 [2] x17 (trivial) rfl qz139 (N4 rfl D0 (B6 (G7 (ys := _) 3 rfl rfl K3 C9 rfl) (B6 (A6 rfl B0) E8)))
  intro h54
  have hp : ¬ AO8 g n = true := (by rw [hadv]; simpa using h54)
  have hdown : findDown (AO8 g) L.Sure.toNat L.Log.length = findDown (AO8 g) L.Sure.toNat (n - 1) := (by rw [hinv.2]; exact Bq8 hgt hp)
  refine R4 ?_
  try rw [show AV.ik IntKind.i64 ((n : Int) - 1) = AV.int ((n - 1 : Nat) : Int) from congrArg AV.int (show (n : Int) - 1 = ((n - 1 : Nat) : Int) by omega)]
  refine R2 ?_
  refine F3 n (n - 1) ?_ ?_ (F2 ⟨rfl, rfl, rfl, rfl, rfl, trivial⟩)
  ·exact ⟨by omega, hdown⟩
  omega
 intro h30
 have k30 := of_decide_eq_false h30; try simp only [A5] at k30
 have hfin : findDown (AO8 g) L.Sure.toNat L.Log.length = none := (by rw [hinv.2]; cases n with | zero => rfl | succ k => (unfold findDown; rw [if_pos qz8]))
 have he : o5 g = (g, true) := (by unfold o5; rw [if_pos hlead, hL, hfin])
 rw [he]
 refine R8 ?_
 exact G1 [2] x17 (trivial) rfl qz139 (N4 rfl D0 (B6 (G7 (ys := _) 3 rfl rfl K3 C9 rfl) (B6 (A6 rfl B0) E8)))
theorem Bj7 (g : TGroup) (hs : g.size ≤ 1048576) : B9 Tryz.prog 195 [AV.agg g.cs] (AV.tup [AV.agg (o5 g).1.cs, AV.bool (o5 g).2]) :=
  K2 (Br1 g hs) fun v _ => p4 (D1 (TGroup.fl _ v) (D1 H0 V2))
theorem Bj8 (many : Int) : C8 Tryz.prog 164 [AV.int many] [] (fun _ : Value => True) (fun v => TGroup.fow (o9 many).1 v) (fun v => AV.tup [AV.agg (TGroup.fcs (o9 many).1 v), AV.bool (o9 many).2]) := by
 refine C3 Tryz.func164 rfl Tryz.ntmps164 rfl ?_
 refine R3 ?_
 intro b2
 refine R12 ?_
 refine A8 (A0 rfl) ?_ ?_
 ·intro h11
  have he : o9 many = (zGroup, false) := (by unfold o9 AF7; rw [if_neg (by simp only [Bool.and_eq_true, bne_iff_ne] at h11; simp [h11.1, h11.2])])
  rw [he]
  refine R7 ?_
  refine W7 207 3 ?_
  exact G1 [0] (Value.slice none 0 0) (trivial) rfl B0 (N4 rfl D0 (B6 (G7 (ys := _) 1 rfl rfl K3 C9 rfl) (B6 (A6 rfl B0) E8)))
 intro h11
 have hm : many = 3 ∨ many = 5 := (by simp only [Bool.and_eq_false_iff, bne_eq_false_iff_eq] at h11; exact h11)
 obtain ⟨n, rfl⟩ : ∃ n : Nat, many = (n : Int) := ⟨many.toNat, by omega⟩
 have he : o9 (n : Int) = (⟨List.replicate n ⟨true, [], 0⟩, 0, -1⟩, true) := (by unfold o9 AF7; rw [if_pos (by rw [Bool.or_eq_true, beq_iff_eq, beq_iff_eq]; exact hm)]; rfl)
 rw [he]
 refine R3 ?_
 refine N8 rfl rfl rfl rfl F8 I6 ?_
 intro v13
 refine S4 0 rfl fun one_v13 => ?_
 refine A4 rfl (W8 (places := #[(0, 1), (1, 1), (2, 1)]) rfl S2 Tryz.zeroValue178 (fun w => by kernel_rfl) rfl (E0 (A0 rfl) (M0 one_v13) (E0 D8 (M5 _ _) T9)) rfl) ?_
 refine R1 ?_
 intro b4
 refine R8 ?_
 refine AWP.le (C1 [0, 0] rfl) ?_
 refine J7 [(0, _), (2, _), (3, _), (4, _)] _ (fun (i : Nat) (v : Value) => i ≤ n) (fun (i : Nat) (v : Value) => [.box b4 178 [AV.is v, AV.int 0, AV.int (-1)], .arr v 207 3 ((List.replicate i (⟨true, [], 0⟩ : F0)).map F0.cs)]) (fun (i : Nat) (v : Value) => [(5, AV.int i)]) (fun (i : Nat) (v : Value) => n - i) (0) (v13) ?_ (I8 B0 ⟨rfl, rfl, rfl, rfl, rfl, trivial⟩) ?_
 ·exact Nat.zero_le _
 intro i v hinv
 refine R7 ?_
 refine A8 (A0 rfl) ?_ ?_
 ·intro h17
  have k17 := of_decide_eq_true h17; try simp only [A5] at k17
  have hlt : i < n := by omega
  refine R9 ?_
  refine G0 (by' := 40) 1 rfl rfl rfl rfl F8 Tryz.type207 rfl rfl rfl rfl rfl rfl (A0 rfl) (A0 rfl) rfl (by simp only [A5, List.length_replicate, P0]; omega) ?_
  intro v25_2
  refine R1 ?_
  refine S4 1 rfl fun one_v25_2 => ?_
  refine P6 0 rfl rfl rfl (A0 rfl) (A0 rfl) (M0 one_v25_2) rfl r9 rfl ?_
  refine R6 ?_
  refine G9 i v (i + 1) (v25_2) ?_ ?_ (Le.trans (C1 [0, 0] rfl) (I8 (by (rw [List.replicate_succ', List.map_append]; rfl)) ⟨rfl, rfl, rfl, rfl, rfl, trivial⟩))
  ·exact qz8
  omega
 intro h17
 have k17 := of_decide_eq_false h17; try simp only [A5] at k17
 have hge : i = n := by omega
 subst hge
 refine R8 ?_
 exact G1 [1] v (trivial) rfl B0 (N4 rfl D0 (B6 (G7 (ys := _) 2 rfl rfl K3 C9 rfl) (B6 (A6 rfl B0) E8)))
theorem Bb0 (many : Int) : B9 Tryz.prog 164 [AV.int many] (AV.tup [AV.agg (o9 many).1.cs, AV.bool (o9 many).2]) :=
  K2 (Bj8 many) fun v _ => p4 (D1 (TGroup.fl _ v) (D1 H0 V2))
end Go.Proofs.YtcfkbhnpfjjmjaaGreat
namespace Go.M
open Go.AV
structure SB (m : Int) (s : G6) : Prop where
  floor : 0 ≤ s.Floor ∧ s.Floor ≤ m
  leads : ∀ h ∈ s.Held, 0 ≤ h.Lead ∧ h.Lead ≤ 3
end Go.M
namespace Go.Proofs.YtcfkbhnpfjjmjaaGreat
open Go Go.AV Go.M
attribute [local irreducible] OpW OpA OpS AWP B9 J5 C8 OpE RetOk H1 I9 Le Ev F6 J9 V9 Int.tmod Int.tdiv IntKind.wrap bandI
end Go.Proofs.YtcfkbhnpfjjmjaaGreat
namespace Go.Proofs.YtcfkbhnpfjjmjaaGreat
open Go Go.AV Go.M
attribute [local irreducible] OpW OpA OpS AWP B9 J5 C8 OpE RetOk H1 I9 Le Ev F6 J9
end Go.Proofs.YtcfkbhnpfjjmjaaGreat
namespace Go.Proofs.YtcfkbhnpfjjmjaaGreat
open Go Go.AV Go.M
attribute [local irreducible] OpW OpA OpS AWP B9 J5 C8 OpE RetOk H1 I9 Le Ev F6 J9 Int.tmod IntKind.wrap bandI
end Go.Proofs.YtcfkbhnpfjjmjaaGreat
namespace Go.Proofs.YtcfkbhnpfjjmjaaGreat
open Go Go.AV Go.M
attribute [local irreducible] OpW OpA OpS AWP B9 J5 C8 OpE RetOk H1 I9 Le Ev F6 J9
end Go.Proofs.YtcfkbhnpfjjmjaaGreat
namespace Go.Proofs.YtcfkbhnpfjjmjaaGreat
open Go Go.Proofs Go.RowKit Go.Shelf Go.M
attribute [local go_sem] Oper.semAt_some
attribute [local go_sem] Oper.semAt_some
end Go.Proofs.YtcfkbhnpfjjmjaaGreat
namespace Go.Proofs.YtcfkbhnpfjjmjaaGreat
open Go Go.AV Go.M
attribute [local irreducible] OpW OpA OpS AWP B9 J5 RetOk I9 Le Ev F6
theorem CB4 (c : C4) (t : Int) (hl : c.Vers.length ≤ 4194304) : B9 Tryz.prog 217 [AV.agg c.cs, AV.int t] (AV.tup [AV.agg ((verAt c.Vers t).getD zV).cs, AV.bool (verAt c.Vers t).isSome]) := by
 refine B7 Tryz.func217 rfl Tryz.ntmps217 rfl ?_
 refine R3 ?_
 intro b2
 refine R1 ?_
 intro b4
 refine R5 ?_
 intro b6
 refine R14 ?_
 refine E5 [(1, _), (4, _), (5, _), (6, _), (11, _), (12, _)] _ (fun (i : Nat) => i ≤ c.Vers.length) (fun (i : Nat) => [.box b6 255 ((verAt (c.Vers.take i) t).getD zV).cs]) (fun (i : Nat) => [(7, AV.bool (verAt (c.Vers.take i) t).isSome), (13, AV.int i)]) (fun (i : Nat) => c.Vers.length - i) (0) ?_ (I8 B0 ⟨rfl, rfl, rfl, rfl, rfl, rfl, rfl, rfl, trivial⟩) ?_
 ·exact Nat.zero_le _
 intro i hinv
 refine R5 ?_
 refine A8 (A0 rfl) ?_ ?_
 ·intro h14
  have k14 := of_decide_eq_true h14; try simp only [A5] at k14
  have hlt : i < c.Vers.length := by omega
  obtain ⟨x, hx⟩ := get_some hlt
  have hvs := By5 (t := t) hx
  refine R5 ?_
  refine A4 rfl (C7 rfl U8 c6 (A0 rfl) (A0 rfl) hx qz4) ?_
  refine R2 ?_
  intro b9
  refine R9 ?_
  refine A8 (A0 rfl) ?_ ?_
  ·intro h20
   have k20 := of_decide_eq_true h20; try simp only [A5] at k20
   have hve : verAt (c.Vers.take (i + 1)) t = some x := by rw [hvs, if_pos k20]
   refine R12 ?_
   refine F3 i (i + 1) ?_ ?_ (E3 1 (by first | (rw [hve]; rfl) | (rw [hve])) ⟨congrArg (fun z : Bool => some (AV.bool z)) (by rw [hve]; try rfl), rfl, rfl, rfl, rfl, rfl, rfl, rfl, trivial⟩)
   ·omega
   omega
  intro h20
  have k20 := of_decide_eq_false h20; try simp only [A5] at k20
  have hve : verAt (c.Vers.take (i + 1)) t = verAt (c.Vers.take i) t := by rw [hvs, if_neg k20]
  refine R5 ?_
  refine F3 i (i + 1) ?_ ?_ (E3 1 (by first | (rw [hve]; rfl) | (rw [hve])) ⟨congrArg (fun z : Bool => some (AV.bool z)) (by rw [hve]; try rfl), rfl, rfl, rfl, rfl, rfl, rfl, rfl, trivial⟩)
  ·omega
  omega
 intro h14
 have k14 := of_decide_eq_false h14; try simp only [A5] at k14
 have hge : c.Vers.length ≤ i := by omega
 rw [List.take_of_length_le hge]
 refine R9 ?_
 exact W6 rfl D0 (B6 (G7 (ys := _) 1 rfl rfl Tryz.isAgg255 c6 rfl) (B6 (A6 rfl (by first | rfl | exact congrArg AV.bool (by rw [List.take_of_length_le hge]))) E8))
theorem BA3 (l : List C4) (k : Str) (t : Int) (hs : sizeL C4.size l ≤ 4194304) : B9 Tryz.prog 203 [AV.list 2 (l.map C4.cs), AV.str k, AV.int t] (AV.tup [AV.str (cellAt l k t).1, AV.bool (cellAt l k t).2]) := by
 have hl : l.length ≤ 4194304 := Nat.le_trans L7 hs
 refine B7 Tryz.func203 rfl Tryz.ntmps203 rfl ?_
 refine R2 ?_
 refine A4 rfl (D4 rfl (L4 (l := []) rfl)) ?_
 refine R6 ?_
 refine A4 rfl (B2 rfl Tryz.call216 rfl (At2 _ _) (A1 (A0 rfl) (A1 (A0 rfl) A7))) ?_
 refine R8 ?_
 refine A8 (A0 rfl) ?_ ?_
 ·intro h15
  have k15 := of_decide_eq_true h15; try simp only [A5] at k15
  have he : cellAt l k t = ([], false) := Bo4 (BP0 k15)
  rw [he]
  refine R2 ?_
  refine A4 rfl (D4 rfl (L4 (l := []) rfl)) ?_
  refine R3 ?_
  exact W6 rfl D0 (B6 (A6 rfl B0) (B6 (A6 rfl B0) E8))
 intro h15
 have k15 := of_decide_eq_false h15; try simp only [A5] at k15
 obtain ⟨p, c, hp, hc, hf⟩ := BP1 k15
 rw [hp]
 have hcl := (AZ9 (Nat.le_trans (X1 hc) hs)).2.1
 have he := (Bo5 (t := t) hf).trans (BZ6 c t)
 rw [he]
 refine R5 ?_
 refine A4 rfl (C7 rfl H7 Q0 (A0 rfl) (A0 rfl) hc qz4) ?_
 refine R2 ?_
 refine A4 rfl (B2 rfl Tryz.call217 rfl (CB4 _ _ T0) (A1 (A0 rfl) (A1 (A0 rfl) A7))) ?_
 refine R4 ?_
 intro b9
 refine R17 ?_
 exact W6 rfl D0 (B6 (A6 rfl B0) (B6 (A6 rfl B0) E8))
end Go.Proofs.YtcfkbhnpfjjmjaaGreat
namespace Go.Proofs.YtcfkbhnpfjjmjaaGreat
open Go Go.AV Go.M
attribute [local irreducible] OpW OpA OpS AWP B9 J5 C8 OpE RetOk H1 I9 Le Ev F6 J9 Int.tmod IntKind.wrap bandI
end Go.Proofs.YtcfkbhnpfjjmjaaGreat
namespace Go.M
open Go.AV
end Go.M
namespace Go.Proofs.YtcfkbhnpfjjmjaaGreat
open Go Go.AV Go.M
attribute [local irreducible] OpW OpA OpS AWP B9 J5 C8 OpE RetOk H1 I9 Le Ev F6 J9 V9 Int.tmod Int.tdiv IntKind.wrap bandI
theorem Ao8 (a b : List Int) : B9 Tryz.prog 9 [ints a, ints b] (AV.bool (decide (a = b))) := by
 refine B7 Tryz.func9 rfl Tryz.ntmps9 rfl ?_
 refine S0 (t := 0) rfl fun hl => ?_
 try simp only [A5] at hl
 refine R13 ?_
 refine A8 (A0 rfl) ?_ ?_
 ·intro h10
  have k10 := AT0 h10; try simp only [A5] at k10
  have hab : a ≠ b := by intro hc; subst hc; exact k10 rfl
  refine R5 ?_
  exact D5 rfl (A6 rfl (by exact congrArg AV.bool (by simp [hab])))
 intro h10
 have k10 := s4 h10; try simp only [A5] at k10
 have heq : a.length = b.length := by omega
 refine R9 ?_
 refine E5 [(0, _), (1, _), (12, _)] _ (fun (i : Nat) => i ≤ a.length ∧ a.take i = b.take i) (fun (i : Nat) => []) (fun (i : Nat) => [(13, AV.int i)]) (fun (i : Nat) => a.length - i) (0) ?_ (F2 ⟨rfl, rfl, rfl, rfl, trivial⟩) ?_
 ·exact ⟨Nat.zero_le _, rfl⟩
 intro i hinv
 refine R5 ?_
 refine A8 (A0 rfl) ?_ ?_
 ·intro h14
  have k14 := of_decide_eq_true h14; try simp only [A5] at k14
  have hlt : i < a.length := by omega
  obtain ⟨x, hx⟩ := get_some hlt
  obtain ⟨y, hy⟩ := get_some (show i < b.length by omega)
  refine R12 ?_
  refine C2 rfl rfl (C7 rfl B3 B4 (A0 rfl) (A0 rfl) hx qz4) ?_
  refine R3 ?_
  refine C2 rfl rfl (C7 rfl B3 B4 (A0 rfl) (A0 rfl) hy qz4) ?_
  refine R3 ?_
  refine A8 (A0 rfl) ?_ ?_
  ·intro h24
   have k24 := AT0 h24; try simp only [A5] at k24
   have hab : a ≠ b := by intro hc; subst hc; rw [hx] at hy; injection hy with hy; subst hy; simp at h24
   refine R5 ?_
   exact D5 rfl (A6 rfl (by exact congrArg AV.bool (by simp [hab])))
  intro h24
  have k24 := s4 h24; try simp only [A5] at k24
  refine R5 ?_
  refine F3 i (i + 1) ?_ ?_ (F2 ⟨rfl, rfl, rfl, rfl, trivial⟩)
  ·exact ⟨by omega, Bg2 hinv.2 hx (by rw [hy]; congr 1; simp_all)⟩
  omega
 intro h14
 have k14 := of_decide_eq_false h14; try simp only [A5] at k14
 have hge : a.length ≤ i := by omega
 have hab : a = b := Bx9 heq hinv.2 hge
 refine R6 ?_
 exact D5 rfl (A6 rfl (by exact congrArg AV.bool (by simp [hab])))
end Go.Proofs.YtcfkbhnpfjjmjaaGreat
namespace Go.M
open Go.AV
def X2 (a b : Int) : Int := if b < a then a else b
def Ao2 (s : G6) (n : Int) : Int × Bool := if (goodState s && isTrue n) = true then (if X2 s.Floor n + 1 ≤ 100000 then (X2 s.Floor n + 1, true) else (0, false)) else (0, false)
theorem BJ7 {n : Int} : isTrue n = true ↔ 0 ≤ n ∧ n ≤ 100000 := by unfold isTrue within; simp only [Bool.and_eq_true, decide_eq_true_eq]
end Go.M
namespace Go.Proofs.YtcfkbhnpfjjmjaaGreat
open Go Go.AV Go.M
attribute [local irreducible] OpW OpA OpS AWP B9 J5 C8 OpE RetOk H1 I9 Le Ev F6 J9 V9 Int.tmod Int.tdiv IntKind.wrap bandI
theorem Ay5 (s : G6) (n : Int) (hs : s.size ≤ 400000) : B9 Tryz.prog 249 [AV.agg s.cs, AV.int n] (AV.tup [AV.int (Ao2 s n).1, AV.bool (Ao2 s n).2]) := by
 refine B7 Tryz.func249 rfl Tryz.ntmps249 rfl ?_
 refine R3 ?_
 intro b2
 refine R7 ?_
 refine A4 rfl (B2 rfl Tryz.call253 rfl (BJ3 s qz8) (A1 (A0 rfl) A7)) ?_
 refine R3 ?_
 refine P4 rfl (fun hc => B2 rfl Tryz.call67 rfl (Af4 _) (A1 (B1 rfl hc) A7)) ?_
 refine R6 ?_
 refine P4 rfl (fun hc => B2 rfl Tryz.call23 rfl (Z1 _ _) (A1 (B1 rfl hc) (A1 (B1 rfl hc) A7))) ?_
 refine R3 ?_
 refine A8 (A0 rfl) ?_ ?_
 ·intro h20
  have he : Ao2 s n = (0, false) := by (unfold Ao2 X2; cases h1 : goodState s <;> cases h2 : M.isTrue n <;> simp_all)
  rw [he]
  refine R6 ?_
  exact W6 rfl D0 (B6 (A6 rfl B0) (B6 (A6 rfl B0) E8))
 intro h20
 have hg : goodState s = true ∧ M.isTrue n = true := by (cases h1 : goodState s <;> cases h2 : M.isTrue n <;> simp_all)
 have hn := BJ7.1 hg.2
 have hfl := (AB7.1 hg.1).floor
 have hml : 0 ≤ X2 s.Floor n ∧ X2 s.Floor n ≤ 100000 := by (unfold X2; split <;> omega)
 have hne : X2 s.Floor n ≠ 100000 := fun hc9 => by (rw [hg.1, hg.2, show (if n < s.Floor then s.Floor else n) = (100000 : Int) from hc9] at h20; simp at h20)
 have he : Ao2 s n = (X2 s.Floor n + 1, true) := by (unfold Ao2; rw [if_pos (by rw [hg.1, hg.2]; rfl), if_pos qz8])
 rw [he]
 refine R6 ?_
 refine A4 rfl (B2 rfl Tryz.call23 rfl (Z1 _ _) (A1 (A0 rfl) (A1 (A0 rfl) A7))) ?_
 refine A4 rfl (Ag0 rfl (A0 rfl) D8 (by show _ ≤ X2 s.Floor n + 1 ∧ X2 s.Floor n + 1 ≤ _; omega)) ?_
 refine R4 ?_
 exact W6 rfl D0 (B6 (A6 rfl B0) (B6 (A6 rfl B0) E8))
end Go.Proofs.YtcfkbhnpfjjmjaaGreat
namespace Go.Proofs.YtcfkbhnpfjjmjaaGreat
open Go Go.AV Go.M
attribute [local irreducible] OpW OpA OpS AWP B9 J5 C8 OpE RetOk H1 I9 Le Ev F6 J9
theorem o8 (l : List Int) (hl : l.length ≤ 4194304) : C8 Tryz.prog 33 [ints l] [] (fun _ : Value => True) (fun v => [.arr v 3 1 (l.map fun x => [AV.int x])]) (fun v => AV.is v) := by
  refine C3 Tryz.func33 rfl Tryz.ntmps33 rfl ?_
  refine R2 ?_
  refine A4 rfl (D4 rfl F4) ?_
  refine R3 ?_
  refine N8 rfl rfl rfl rfl B3 B4 ?_
  intro v3
  refine R1 ?_
  refine G0 (by' := 8) 0 rfl rfl rfl rfl B3 Tryz.type3 rfl rfl rfl rfl rfl rfl (A0 rfl) (A0 rfl) rfl qz4 ?_
  intro v5_1
  refine R3 ?_
  exact G1 [0] v5_1 (trivial) rfl B0 (E6 rfl (A6 rfl U6))
end Go.Proofs.YtcfkbhnpfjjmjaaGreat
namespace Go.AV
end Go.AV
namespace Go.M
open Go.AV
def goodClock (c : V6) : Bool := within c.Off (-5) 5
def g6 (c : V6) (now : Int) : AO7 := ⟨now + c.Off - 5, now + c.Off + 5⟩
theorem Bb1 {c : V6} : goodClock c = true ↔ -5 ≤ c.Off ∧ c.Off ≤ 5 := by unfold goodClock within; simp only [Bool.and_eq_true, decide_eq_true_eq]
def maxAll (m : Int) (l : List Int) : Int := l.foldl X2 m
end Go.M
namespace Go.Proofs.YtcfkbhnpfjjmjaaGreat
open Go Go.AV Go.M
attribute [local irreducible] OpW OpA OpS AWP B9 J5 C8 OpE RetOk H1 I9 Le Ev F6 J9 V9 Int.tmod Int.tdiv IntKind.wrap bandI
theorem CI6 (c : V6) (now : Int) (hc : goodClock c = true) (hn : isTrue now = true) : B9 Tryz.prog 191 [AV.agg c.cs, AV.int now] (AV.agg (g6 c now).cs) := by
  have h1 := Bb1.1 hc
  have h2 := BJ7.1 hn
  refine B7 Tryz.func191 rfl Tryz.ntmps191 rfl ?_
  refine R3 ?_
  intro b2
  refine R1 ?_
  intro b4
  refine R17 ?_
  exact D5 rfl (G7 (ys := _) 0 rfl rfl Tryz.isAgg218 Tryz.sizeOf218 rfl)
end Go.Proofs.YtcfkbhnpfjjmjaaGreat
namespace Go.M
open Go.AV
theorem BA4 {m : Int} {l : List Int} {i : Nat} {x : Int} (h : l[i]? = some x) : maxAll m (l.take (i + 1)) = X2 (maxAll m (l.take i)) x := by
  unfold maxAll
  rw [List.take_add_one, h, List.foldl_append]; rfl
end Go.M
namespace Go.Proofs.YtcfkbhnpfjjmjaaGreat
open Go Go.AV Go.M
attribute [local irreducible] OpW OpA OpS AWP B9 J5 C8 OpE RetOk H1 I9 Le Ev F6 J9 V9 Int.tmod Int.tdiv IntKind.wrap bandI
theorem BQ1 (l : List Int) (s : AO7) (hs : s.High ≤ 1000000 ∧ -1000000 ≤ s.High) : B9 Tryz.prog 243 [ints l, AV.agg s.cs] (AV.int (maxAll (s.High + 1) l)) := by
 refine B7 Tryz.func243 rfl Tryz.ntmps243 rfl ?_
 refine S0 (t := 0) rfl fun hl => ?_
 try simp only [A5] at hl
 refine R3 ?_
 intro b3
 refine R17 ?_
 refine J7 [(4, _), (11, _), (12, _)] _ (fun (i : Nat) (m : Int) => i ≤ l.length ∧ m = maxAll (s.High + 1) (l.take i)) (fun (i : Nat) (m : Int) => []) (fun (i : Nat) (m : Int) => [(5, AV.int m), (13, AV.int i)]) (fun (i : Nat) (m : Int) => l.length - i) (0) (s.High + 1) ?_ (F2 ⟨rfl, rfl, rfl, rfl, rfl, trivial⟩) ?_
 ·exact ⟨Nat.zero_le _, rfl⟩
 intro i m hinv
 refine R5 ?_
 refine A8 (A0 rfl) ?_ ?_
 ·intro h14
  have k14 := of_decide_eq_true h14; try simp only [A5] at k14
  have hlt : i < l.length := by omega
  obtain ⟨x, hx⟩ := get_some hlt
  refine R5 ?_
  refine A4 rfl (C7 rfl B3 B4 (A0 rfl) (A0 rfl) hx qz4) ?_
  refine R6 ?_
  refine A4 rfl (B2 rfl Tryz.call23 rfl (Z1 _ _) (A1 (A0 rfl) (A1 (A0 rfl) A7))) ?_
  refine R6 ?_
  refine G9 i m (i + 1) (X2 m x) ?_ ?_ (F2 ⟨rfl, rfl, rfl, rfl, rfl, trivial⟩)
  ·exact ⟨by omega, by rw [BA4 hx, hinv.2]⟩
  omega
 intro h14
 have k14 := of_decide_eq_false h14; try simp only [A5] at k14
 have hge : l.length ≤ i := by omega
 rw [show m = maxAll (s.High + 1) l from by rw [hinv.2, List.take_of_length_le hge]]
 refine R7 ?_
 exact D5 rfl (A6 rfl B0)
theorem Bb2 (s : G6) (x : AO7) (hs : s.Floor ≤ 1000000 ∧ -1000000 ≤ s.Floor) (hx : x.High ≤ 1000000 ∧ -1000000 ≤ x.High) : B9 Tryz.prog 179 [AV.agg s.cs, AV.agg x.cs] (AV.int (X2 1 (X2 (s.Floor + 1) (x.High + 10)))) := by
  refine B7 Tryz.func179 rfl Tryz.ntmps179 rfl ?_
  refine R3 ?_
  intro b2
  refine R1 ?_
  intro b3
  refine R10 ?_
  refine A4 rfl (B2 rfl Tryz.call23 rfl (Z1 _ _) (A1 (A0 rfl) (A1 (A0 rfl) A7))) ?_
  refine A4 rfl (B2 rfl Tryz.call23 rfl (Z1 _ _) (A1 D8 (A1 (A0 rfl) A7))) ?_
  refine R3 ?_
  exact D5 rfl (A6 rfl B0)
end Go.Proofs.YtcfkbhnpfjjmjaaGreat
namespace Go.M
open Go.AV
theorem CI7 {l : List J4} {i : Nat} {e : J4} (h : l[i]? = some e) : t5 (l.take (i + 1)) = t5 (l.take i) ++ [e.Rec] := by
  unfold t5; rw [List.take_add_one, h, List.map_append]; rfl
theorem BW8 {l : List F0} {i : Nat} {r b : F0} (h : l[i]? = some r) : (l.take (i + 1)).foldl (fun b r => if b.Sure < r.Sure then r else b) b = (if ((l.take i).foldl (fun b r => if b.Sure < r.Sure then r else b) b).Sure < r.Sure then r else (l.take i).foldl (fun b r => if b.Sure < r.Sure then r else b) b) := by
  rw [List.take_add_one, h, List.foldl_append]; rfl
structure LogK (l : List J4) : Prop where
  len : l.length ≤ 60
  recs : ∀ e ∈ l, e.Rec.size ≤ 1100
theorem BQ2 {r : F0} {t : Int} (h : GR r t) : LogK r.Log := ⟨h.len, fun e he => Nat.le_trans (AJ6 (h.ents e he).2.2) D0⟩
end Go.M
namespace Go.Proofs.YtcfkbhnpfjjmjaaGreat
open Go Go.AV Go.M
attribute [local irreducible] OpW OpA OpS AWP B9 J5 C8 OpE RetOk H1 I9 Le Ev F6 J9 V9 Int.tmod Int.tdiv IntKind.wrap bandI
theorem AV1 (l : List J4) (m : Int) (hm : 0 ≤ m ∧ m ≤ l.length) (hk : LogK l) : B9 Tryz.prog 168 [AV.list 8 (l.map J4.cs), AV.int m] (AV.agg (Av8 l m.toNat).cs) := by
 obtain ⟨n, rfl⟩ : ∃ n : Nat, m = (n : Int) := ⟨m.toNat, by omega⟩
 have hnl : n ≤ l.length := by omega
 have hl6 := hk.len
 refine B7 Tryz.func168 rfl Tryz.ntmps168 rfl ?_
 refine R3 ?_
 intro b4
 refine R3 ?_
 refine O8 221 7 rfl rfl rfl rfl F4 ?_
 intro v5
 refine R6 ?_
 refine A4 rfl (j0 rfl N6 T6 (A0 rfl) (A0 rfl) qz8 (by (try simp only [A5]); omega)) ?_
 refine R4 ?_
 refine J7 [(4, _), (12, _), (13, _)] _ (fun (i : Nat) (v : Value) => i ≤ n) (fun (i : Nat) (v : Value) => [.arr v 221 7 ((t5 (l.take i)).map L2.cs)]) (fun (i : Nat) (v : Value) => [(5, AV.is v), (14, AV.int i)]) (fun (i : Nat) (v : Value) => n - i) (0) (v5) ?_ (I8 B0 ⟨rfl, rfl, rfl, rfl, rfl, trivial⟩) ?_
 ·exact Nat.zero_le _
 intro i v hinv
 refine R5 ?_
 refine A8 (A0 rfl) ?_ ?_
 ·intro h15
  have k15 := of_decide_eq_true h15; try simp only [A5] at k15
  have hlt : i < n := (by simp only [A5, H2] at k15; omega)
  obtain ⟨x, hx⟩ := get_some (show i < l.length by omega)
  have hx2 : (l.take ((n : Int)).toNat)[i]? = some x := (by rw [Int.toNat_natCast, List.getElem?_take_of_lt hlt]; exact hx)
  have hrl : (t5 (l.take i)).length ≤ 60 := (by unfold t5; rw [A5, H2]; omega)
  refine R5 ?_
  refine A4 rfl (C7 rfl N6 T6 (A0 rfl) (A0 rfl) hx2 qz4) ?_
  refine R2 ?_
  intro b7
  refine R5 ?_
  refine A4 rfl (w_loadAP _ 0 rfl (A0 rfl) rfl Tryz.isAgg221 Tryz.sizeOf221 rfl rfl) ?_
  refine R1 ?_
  refine G0 (by' := 88) 1 rfl rfl rfl rfl Tryz.underlying224 Tryz.type221 rfl rfl rfl rfl rfl rfl (A0 rfl) (A0 rfl) rfl (by simp only [A5, P0]; omega) ?_
  intro v22_1
  refine R6 ?_
  refine G9 i v (i + 1) (v22_1) ?_ ?_ (Le.trans (C1 [0, 0] rfl) (E3 1 (by (rw [CI7 hx, List.map_append]; rfl)) ⟨rfl, rfl, rfl, rfl, rfl, trivial⟩))
  ·exact qz8
  omega
 intro h15
 have k15 := of_decide_eq_false h15; try simp only [A5] at k15
 have hge : i = n := (by simp only [A5, H2] at k15; omega)
 subst hge
 have hrl : (t5 (l.take i)).length ≤ 60 := (by unfold t5; rw [A5, H2]; omega)
 have hrs : ∀ r ∈ t5 (l.take i), r.size ≤ 1100 := fun r hr => (by obtain ⟨e, he, rfl⟩ := List.mem_map.1 hr; exact hk.recs e (List.mem_of_mem_take he))
 refine R4 ?_
 refine AS2 (f0 [0] 25 rfl rfl (J3 (C6 (i := 0) rfl) F5) Ac1) ?_
 refine A4 rfl (B2 rfl Tryz.call187 rfl (ofF_spec (t5 (l.take i)) hrl hrs) (A1 (A0 rfl) A7)) ?_
 refine R4 ?_
 intro b8
 refine R9 ?_
 exact D5 rfl (G7 (ys := _) 1 rfl rfl U0 P3 rfl)
theorem j3 (g : TGroup) (gg : GG g) : B9 Tryz.prog 200 [AV.agg g.cs] (AV.bool (q7 g)) := by
 refine B7 Tryz.func200 rfl Tryz.ntmps200 rfl ?_
 refine R3 ?_
 intro b1
 refine R9 ?_
 refine A8 (A0 rfl) ?_ ?_
 ·intro h8
  have k8 := of_decide_eq_true h8; try simp only [A5] at k8
  have he : q7 g = false := (by unfold q7; rw [decide_eq_false qz8]; rfl)
  rw [he]
  refine R5 ?_
  exact D5 rfl (A6 rfl B0)
 intro h8
 have k8 := of_decide_eq_false h8; try simp only [A5] at k8
 have hl0 : 0 ≤ g.Lead := qz8
 have hin := AX5 gg hl0
 obtain ⟨L, hL⟩ : ∃ L, repAt g g.Lead = L := ⟨_, rfl⟩
 have hxl := c0 hin
 have hgr := gg.reps _ (f7 hin)
 rw [hL] at hxl hgr
 have hsr := hgr.sure
 have hl6 := hgr.len
 obtain ⟨n, hn⟩ : ∃ n : Nat, L.Sure = (n : Int) := ⟨L.Sure.toNat, by omega⟩
 have he : q7 g = (L.Log.take n).any (fun e => e.Term == g.Term) := (by unfold q7; rw [decide_eq_true hl0, hL, hn]; rfl)
 rw [he]
 refine R7 ?_
 refine A4 rfl (C7 rfl F8 I6 (A0 rfl) (A0 rfl) hxl qz8) ?_
 refine R2 ?_
 intro b3
 refine R4 ?_
 rw [show L.cs = [AV.bool L.Up, AV.list 8 (L.Log.map J4.cs), AV.int (n : Int)] by rw [← hn]; rfl]
 refine R5 ?_
 refine A4 rfl (j0 rfl N6 T6 (A0 rfl) (A0 rfl) qz8 (by (try simp only [A5]); omega)) ?_
 refine R4 ?_
 refine E5 [(1, _), (19, _), (20, _)] _ (fun (i : Nat) => i ≤ (L.Log.take n).length ∧ ((L.Log.take n).any fun e => e.Term == g.Term) = (((L.Log.take n).drop i).any fun e => e.Term == g.Term)) (fun (i : Nat) => []) (fun (i : Nat) => [(21, AV.int i)]) (fun (i : Nat) => (L.Log.take n).length - i) (0) ?_ (F2 ⟨rfl, rfl, rfl, rfl, trivial⟩) ?_
 ·exact ⟨Nat.zero_le _, rfl⟩
 intro i hinv
 refine R5 ?_
 refine A8 (A0 rfl) ?_ ?_
 ·intro h22
  have k22 := of_decide_eq_true h22; try simp only [A5] at k22
  have hlt : i < (L.Log.take n).length := Ai1
  have h9 : (L.Log.take n).length ≤ L.Log.length := BF4
  obtain ⟨x, hx⟩ := get_some hlt
  refine R5 ?_
  refine A4 rfl (C7 rfl N6 T6 (A0 rfl) (A0 rfl) hx qz4) ?_
  refine R2 ?_
  intro b5
  refine R10 ?_
  refine A8 (A0 rfl) ?_ ?_
  ·intro h29
   have k29 := D2 h29; try simp only [A5] at k29
   rw [hinv.2, drop_some hx, List.any_cons, h29]
   refine R5 ?_
   exact D5 rfl (A6 rfl B0)
  intro h29
  have k29 := D6 h29; try simp only [A5] at k29
  refine R5 ?_
  refine F3 i (i + 1) ?_ ?_ (O3 1 ⟨rfl, rfl, rfl, rfl, trivial⟩)
  ·exact ⟨by omega, by rw [hinv.2, drop_some hx, List.any_cons, h29]; rfl⟩
  omega
 intro h22
 have k22 := of_decide_eq_false h22; try simp only [A5] at k22
 have hge : (L.Log.take n).length ≤ i := Ai1
 rw [hinv.2, List.drop_eq_nil_of_le hge]
 refine R6 ?_
 exact D5 rfl (A6 rfl B0)
theorem Au2 (g : TGroup) (gg : GG g) : B9 Tryz.prog 146 [AV.agg g.cs] (AV.agg (AJ0 g).cs) := by
 have h0l : 0 < g.Reps.length ∧ g.Reps.length ≤ 5 := by have := gg.many; omega
 refine B7 Tryz.func146 rfl Tryz.ntmps146 rfl ?_
 refine R3 ?_
 intro b1
 refine R1 ?_
 intro b2
 refine R14 ?_
 refine J7 [(1, _), (2, _), (7, _), (8, _)] _ (fun (i : Nat) (p : Nat) => i ≤ g.Reps.length ∧ g.Reps[p]? = some ((g.Reps.take i).foldl (fun b r => if b.Sure < r.Sure then r else b) (repAt g 0))) (fun (i : Nat) (p : Nat) => []) (fun (i : Nat) (p : Nat) => [(3, AV.int p), (9, AV.int i)]) (fun (i : Nat) (p : Nat) => g.Reps.length - i) (0) (0) ?_ (F2 ⟨rfl, rfl, rfl, rfl, rfl, rfl, trivial⟩) ?_
 ·exact ⟨Nat.zero_le _, c0 (g := g) (r := 0) ⟨Int.le_refl _, by omega⟩⟩
 intro i p hinv
 refine R5 ?_
 refine A8 (A0 rfl) ?_ ?_
 ·intro h10
  have k10 := of_decide_eq_true h10; try simp only [A5] at k10
  have hlt : i < g.Reps.length := AD1
  obtain ⟨x, hx⟩ := get_some hlt
  refine R6 ?_
  refine A4 rfl (C7 rfl F8 I6 (A0 rfl) (A0 rfl) hx qz4) ?_
  refine R2 ?_
  intro b5
  refine R10 ?_
  refine C2 rfl rfl (C7 rfl F8 I6 (A0 rfl) (A0 rfl) hinv.2 qz4) ?_
  refine R4 ?_
  refine A8 (A0 rfl) ?_ ?_
  ·intro h22
   have k22 := of_decide_eq_true h22; try simp only [A5] at k22
   refine R8 ?_
   refine G9 i p (i + 1) (i) ?_ ?_ (O3 1 ⟨rfl, rfl, rfl, rfl, rfl, rfl, trivial⟩)
   ·exact ⟨by omega, by rw [BW8 hx, if_pos k22]; exact hx⟩
   omega
  intro h22
  have k22 := of_decide_eq_false h22; try simp only [A5] at k22
  refine R5 ?_
  refine G9 i p (i + 1) (p) ?_ ?_ (O3 1 ⟨rfl, rfl, rfl, rfl, rfl, rfl, trivial⟩)
  ·exact ⟨by omega, by rw [BW8 hx, if_neg k22]; exact hinv.2⟩
  omega
 intro h10
 have k10 := of_decide_eq_false h10; try simp only [A5] at k10
 have hge : g.Reps.length ≤ i := AD1
 have hb : g.Reps[p]? = some (AR5 g) := (by have h9 := hinv.2; rw [List.take_of_length_le hge] at h9; exact h9)
 have hgr := gg.reps _ (Bv2 gg)
 refine R2 ?_
 refine L6 13 F1 F1 rfl ?_
 refine R3 ?_
 refine C2 rfl rfl (C7 rfl F8 I6 (A0 rfl) (A0 rfl) hb qz4) ?_
 refine R5 ?_
 refine C2 rfl rfl (C7 rfl F8 I6 (A0 rfl) (A0 rfl) hb qz4) ?_
 refine R2 ?_
 refine C2 rfl rfl (B2 rfl Tryz.call168 rfl (AV1 (AR5 g).Log (AR5 g).Sure hgr.sure (BQ2 hgr)) (A1 (A0 rfl) (A1 (A0 rfl) A7))) ?_
 refine R4 ?_
 exact D5 rfl (G7 (ys := _) 0 rfl rfl U0 P3 rfl)
end Go.Proofs.YtcfkbhnpfjjmjaaGreat
namespace Go.M
open Go.AV
theorem Ah6 {α : Type} {l : List α} {i : Nat} {x : α} (h : l[i]? = some x) : l.set i x = l := by
  apply List.ext_getElem?
  intro j
  by_cases e : i = j
  · subst e; rw [List.getElem?_set_self (List.getElem?_eq_some_iff.1 h).1, h]
  · rw [List.getElem?_set_ne e]
end Go.M
namespace Go.Proofs.YtcfkbhnpfjjmjaaGreat
open Go Go.AV Go.M
attribute [local irreducible] OpW OpA OpS AWP B9 J5 C8 OpE RetOk H1 I9 Le Ev F6 J9 V9 Int.tmod Int.tdiv IntKind.wrap bandI
def A3.ocs (t : A3) (y : Value × Value) : List AV := [AV.list 4 (t.Ops.map TOp.cs), AV.is y.1, AV.is y.2, AV.int t.Begin, AV.int t.End, AV.bool t.Yes, AV.int t.Time, AV.bool t.Dead, AV.bool t.Put, AV.bool t.Stopped]
def A3.ow (t : A3) (y : Value × Value) : List Go.AV.Own := [.arr y.1 45 3 (t.Got.map G4.cs), .arr y.2 3 1 (t.Terms.map fun n => [AV.int n])]
def A2.ocs (l : A2) (y : Value) : List AV := [AV.int l.Node, strs l.Keys, AV.is y, AV.int l.Time, AV.int l.Begin, AV.int l.End]
def A2.ow (l : A2) (y : Value) : List Go.AV.Own := [.arr y 45 3 (l.Got.map G4.cs)]
theorem A3.lcM {own : List Go.AV.Own} (t : A3) (y : Value × Value) (h : ∀ o ∈ A3.ow t y, o ∈ own) : Z9 own (A3.ocs t y) t.cs := D1 H0 (D1 (J3 (h _ (C6 (i := 0) rfl)) F5) (D1 (J3 (h _ (C6 (i := 1) rfl)) F5) f6))
theorem A2.lcM {own : List Go.AV.Own} (l : A2) (y : Value) (h : ∀ o ∈ A2.ow l y, o ∈ own) : Z9 own (A2.ocs l y) l.cs := D1 H0 (D1 H0 (D1 (J3 (h _ (C6 (i := 0) rfl)) F5) f6))
structure WX where
  cl : Value
  gr : Value
  lo : Value
  pr : Value
  tx : Value
  lk : Value
def WB (b : Nat) (w : TWorld) (X : WX) (T : List (Value × Value)) (L : List Value) : List Go.AV.Own :=
  .box b 199 [AV.int w.Now, AV.int w.Count, AV.is X.cl, strs w.Cuts, AV.is X.gr, AV.is X.lo, AV.is X.pr, AV.is X.tx, AV.is X.lk] ::
  .arr X.cl 234 1 (w.Clocks.map V6.cs) :: .arr X.gr 178 3 (w.Groups.map TGroup.cs) :: .arr X.lo 203 1 (w.Locks.map fun l => [AV.list 3 (l.map I0.cs)]) ::
  .arr X.pr 3 1 (w.Promised.map fun n => [AV.int n]) :: .arr X.tx 143 10 (nrows A3.ocs w.Txns T) :: .arr X.lk 152 6 (nrows A2.ocs w.Looks L) ::
  (nin A3.ow w.Txns T ++ nin A2.ow w.Looks L)
theorem AM1 (b : Nat) (w : TWorld) (X : WX) (T : List (Value × Value)) (L : List Value) (g : Int) (gi : TGroup) (hx : w.Groups[g.toNat]? = some gi) (h0 : 0 ≤ g) (gg : GG gi) (hl : 0 ≤ gi.Lead) : C8 Tryz.prog 202 [AV.ptr b 0, AV.int g] (WB b w X T L) (fun _ : Unit => True) (fun _ => WB b w X T L) (fun _ => AV.agg (leadSure gi).cs) := by
 have hin := AX5 gg hl
 have hgr := gg.reps _ (f7 hin)
 have hgl := (List.getElem?_eq_some_iff.1 hx).1
 refine C3 Tryz.func202 rfl Tryz.ntmps202 rfl ?_
 refine R3 ?_
 intro b4
 refine R2 ?_
 refine P5 _ 21 (.pure 0 (.pure 1 (.pure 2 (.pure 3 (.pure 4 (.pure 5 (.pure 6 (.pure 7 (.pure 8 (.pure 9 (.pure 10 (.pure 11 (.pure 12 (.pure 13 (.pure 14 (.pure 15 (.pure 16 (.pure 17 (.pure 18 (.pure 19 (.e1 20 .nil))))))))))))))))))))) F1 F1 rfl (P1 8) ?_
 refine R6 ?_
 refine J0 rfl rfl rfl (fun ext => D7 3 rfl G8 C9 (A0 rfl) rfl (A0 rfl) qz8 g9) ?_
 refine J0 rfl rfl rfl (fun ext => J2 3 rfl S2 rfl r9 (A0 rfl) rfl rfl qz5) ?_
 refine J0 rfl rfl rfl (fun ext => K5 3 rfl (A0 rfl) rfl Tryz.isAgg176 qz5 rfl) ?_
 refine R6 ?_
 refine J0 rfl rfl rfl (fun ext => D7 3 rfl G8 C9 (A0 rfl) rfl (A0 rfl) qz8 g9) ?_
 refine J0 rfl rfl rfl (fun ext => J2 3 rfl S2 rfl B4 (A0 rfl) rfl rfl qz5) ?_
 refine J0 rfl rfl rfl (fun ext => K5 3 rfl (A0 rfl) rfl H3 qz5 rfl) ?_
 refine J0 rfl rfl rfl (fun ext => C7 rfl F8 I6 (A0 rfl) (A0 rfl) (c0 hin) qz8) ?_
 refine R2 ?_
 refine E1 rfl rfl rfl (Y6 8 <| Q6 rfl Tryz.zeroValue207 rfl) (fun a _ => qz3) ?_
 intro b5 _
 refine R9 ?_
 refine A4 rfl (B2 rfl Tryz.call168 rfl (AV1 (repAt gi gi.Lead).Log (repAt gi gi.Lead).Sure hgr.sure (BQ2 hgr)) (A1 (A0 rfl) (A1 (A0 rfl) A7))) ?_
 refine R3 ?_
 exact H4 [1, 1, 1, 1, 1, 1, 1] 2 (nin A3.ow w.Txns T ++ nin A2.ow w.Looks L) [] () (trivial) rfl (show List.Perm (nin A3.ow w.Txns T ++ nin A2.ow w.Looks L) ((nin A3.ow w.Txns T ++ nin A2.ow w.Looks L) ++ []) from B8) B0 (E6 rfl (G7 (ys := _) 0 rfl rfl U0 P3 rfl))
theorem AA4 (b : Nat) (w : TWorld) (X : WX) (T : List (Value × Value)) (L : List Value) (g : Int) (gi : TGroup) (hx : w.Groups[g.toNat]? = some gi) (h0 : 0 ≤ g) (gg : GG gi) (hl : 0 ≤ gi.Lead) : C8 Tryz.prog 180 [AV.ptr b 0, AV.int g] (WB b w X T L) (fun _ : Unit => True) (fun _ => WB b w X T L) (fun _ => AV.agg (leadFull gi).cs) := by
 have hin := AX5 gg hl
 have hgr := gg.reps _ (f7 hin)
 have hgl := (List.getElem?_eq_some_iff.1 hx).1
 have hf : B9 Tryz.prog 168 [AV.list 8 ((repAt gi gi.Lead).Log.map J4.cs), AV.int ((((repAt gi gi.Lead).Log.map J4.cs).length : Nat) : Int)] (AV.agg (leadFull gi).cs) := by rw [A5]; exact AV1 _ _ ⟨by omega, by omega⟩ (BQ2 hgr)
 refine C3 Tryz.func180 rfl Tryz.ntmps180 rfl ?_
 refine R3 ?_
 intro b4
 refine R2 ?_
 refine P5 _ 21 (.pure 0 (.pure 1 (.pure 2 (.pure 3 (.pure 4 (.pure 5 (.pure 6 (.pure 7 (.pure 8 (.pure 9 (.pure 10 (.pure 11 (.pure 12 (.pure 13 (.pure 14 (.pure 15 (.pure 16 (.pure 17 (.pure 18 (.pure 19 (.e1 20 .nil))))))))))))))))))))) F1 F1 rfl (P1 8) ?_
 refine R6 ?_
 refine J0 rfl rfl rfl (fun ext => D7 3 rfl G8 C9 (A0 rfl) rfl (A0 rfl) qz8 g9) ?_
 refine J0 rfl rfl rfl (fun ext => J2 3 rfl S2 rfl r9 (A0 rfl) rfl rfl qz5) ?_
 refine J0 rfl rfl rfl (fun ext => K5 3 rfl (A0 rfl) rfl Tryz.isAgg176 qz5 rfl) ?_
 refine R6 ?_
 refine J0 rfl rfl rfl (fun ext => D7 3 rfl G8 C9 (A0 rfl) rfl (A0 rfl) qz8 g9) ?_
 refine J0 rfl rfl rfl (fun ext => J2 3 rfl S2 rfl B4 (A0 rfl) rfl rfl qz5) ?_
 refine J0 rfl rfl rfl (fun ext => K5 3 rfl (A0 rfl) rfl H3 qz5 rfl) ?_
 refine J0 rfl rfl rfl (fun ext => C7 rfl F8 I6 (A0 rfl) (A0 rfl) (c0 hin) qz8) ?_
 refine R2 ?_
 refine E1 rfl rfl rfl (Y6 8 <| Q6 rfl Tryz.zeroValue207 rfl) (fun a _ => qz3) ?_
 intro b5 _
 refine R10 ?_
 refine A4 rfl (B2 rfl Tryz.call168 rfl (hf) (A1 (A0 rfl) (A1 (A0 rfl) A7))) ?_
 refine R3 ?_
 exact H4 [1, 1, 1, 1, 1, 1, 1] 2 (nin A3.ow w.Txns T ++ nin A2.ow w.Looks L) [] () (trivial) rfl (show List.Perm (nin A3.ow w.Txns T ++ nin A2.ow w.Looks L) ((nin A3.ow w.Txns T ++ nin A2.ow w.Looks L) ++ []) from B8) B0 (E6 rfl (G7 (ys := _) 0 rfl rfl U0 P3 rfl))
theorem Ad1 (b : Nat) (w : TWorld) (X : WX) (T : List (Value × Value)) (L : List Value) (node : Int) (c : V6) (hx : w.Clocks[node.toNat]? = some c) (h0 : 0 ≤ node) (hc : goodClock c = true) (hn : isTrue w.Now = true) : C8 Tryz.prog 181 [AV.ptr b 0, AV.int node] (WB b w X T L) (fun _ : Unit => True) (fun _ => WB b w X T L) (fun _ => AV.agg (g6 c w.Now).cs) := by
 have hcl := (List.getElem?_eq_some_iff.1 hx).1
 refine C3 Tryz.func181 rfl Tryz.ntmps181 rfl ?_
 refine R3 ?_
 intro b4
 refine R2 ?_
 refine L6 14 F1 F1 rfl ?_
 refine R6 ?_
 refine C2 rfl rfl (D7 2 rfl S7 s0 (A0 rfl) rfl (A0 rfl) qz8 g9) ?_
 refine C2 rfl rfl (X5 2 rfl (A0 rfl) rfl Tryz.isAgg234 s0 qz5 D0) ?_
 refine R5 ?_
 refine C2 rfl rfl (B2 rfl Tryz.call191 rfl (CI6 c w.Now hc hn) (A1 (A0 rfl) (A1 (A0 rfl) A7))) ?_
 refine R4 ?_
 exact H4 [1, 1, 1, 1, 1, 1, 1] 1 (nin A3.ow w.Txns T ++ nin A2.ow w.Looks L) [] () (trivial) rfl (show List.Perm (nin A3.ow w.Txns T ++ nin A2.ow w.Looks L) ((nin A3.ow w.Txns T ++ nin A2.ow w.Looks L) ++ []) from B8) B0 (E6 rfl (G7 (ys := _) 0 rfl rfl Tryz.isAgg218 Tryz.sizeOf218 rfl))
theorem AV2 (b : Nat) (w : TWorld) (X : WX) (T : List (Value × Value)) (L : List Value) (g : Int) (gi : TGroup) (c : V6) (hx : w.Groups[g.toNat]? = some gi) (h0 : 0 ≤ g ∧ g ≤ 3) (hl : 0 ≤ gi.Lead ∧ gi.Lead ≤ 5) (hcx : w.Clocks[(3 * g + gi.Lead).toNat]? = some c) (hc : goodClock c = true) (hn : isTrue w.Now = true) : C8 Tryz.prog 244 [AV.ptr b 0, AV.int g] (WB b w X T L) (fun _ : Unit => True) (fun _ => WB b w X T L) (fun _ => AV.agg (g6 c w.Now).cs) := by
  have hgl := (List.getElem?_eq_some_iff.1 hx).1
  refine C3 Tryz.func244 rfl Tryz.ntmps244 rfl ?_
  refine R3 ?_
  intro b4
  refine R5 ?_
  refine A4 rfl (AT1 rfl D8 (A0 rfl) qz4) ?_
  refine R6 ?_
  refine A4 rfl (D7 3 rfl G8 C9 (A0 rfl) rfl (A0 rfl) qz8 g9) ?_
  refine A4 rfl (J2 3 rfl S2 rfl B4 (A0 rfl) rfl rfl qz5) ?_
  refine A4 rfl (K5 3 rfl (A0 rfl) rfl H3 qz5 rfl) ?_
  refine R1 ?_
  refine A4 rfl (X6 [1, 1, 1, 1, 1, 1, 1] 1 (nin A3.ow w.Txns T ++ nin A2.ow w.Looks L) ([]) rfl Tryz.call181 rfl rfl (B8) (Ad1 b w X T L (3 * g + gi.Lead) c hcx qz8 hc hn) (A1 (A0 rfl) (A1 (A0 rfl) A7))) ?_
  refine R3 ?_
  exact H4 [1, 1, 1, 1, 1, 1, 1] 1 (nin A3.ow w.Txns T ++ nin A2.ow w.Looks L) [] () (trivial) rfl (show List.Perm (nin A3.ow w.Txns T ++ nin A2.ow w.Looks L) ((nin A3.ow w.Txns T ++ nin A2.ow w.Looks L) ++ []) from B8) B0 (E6 rfl (G7 (ys := _) 0 rfl rfl Tryz.isAgg218 Tryz.sizeOf218 rfl))
theorem Bj9 (b : Nat) (w : TWorld) (X : WX) (T : List (Value × Value)) (L : List Value) (g t : Int) (k : Str) (write : Bool) (gi : TGroup) (hx : w.Groups[g.toNat]? = some gi) (h0 : 0 ≤ g) (gg : GG gi) (hl : 0 ≤ gi.Lead) : ∃ r : Bool, C8 Tryz.prog 245 [AV.ptr b 0, AV.int g, AV.int t, AV.str k, AV.bool write] (WB b w X T L) (fun _ : Unit => True) (fun _ => WB b w X T L) (fun _ => AV.bool r) := by
 obtain ⟨f, hf⟩ : ∃ f : E7 → Bool, f = fun h => (h.Txn != t) && (hasK h.Writes k || (write && hasS h.Reads k)) := ⟨_, rfl⟩
 refine ⟨[leadSure gi, leadFull gi].any fun s => s.Held.any f, ?_⟩
 have hsl : ∀ s ∈ [leadSure gi, leadFull gi], s.Held.length ≤ 12 := fun s hs => by
  rcases List.mem_cons.1 hs with rfl | hs
  ·exact (AJ5 gg hl).hlen
  rw [List.mem_singleton.1 hs]; exact (n6 gg hl).hlen
 refine C3 Tryz.func245 rfl Tryz.ntmps245 rfl ?_
 refine R9 ?_
 refine A4 rfl (X6 [0, 0, 0, 0, 0, 0, 0] 0 (nin A3.ow w.Txns T ++ nin A2.ow w.Looks L) ([]) rfl Tryz.call202 rfl rfl (B8) (AM1 b w X T L g gi hx h0 gg hl) (A1 (A0 rfl) (A1 (A0 rfl) A7))) ?_
 refine R2 ?_
 refine A4 rfl (X6 [0, 0, 0, 0, 0, 0, 0] 0 (nin A3.ow w.Txns T ++ nin A2.ow w.Looks L) ([]) rfl Tryz.call180 rfl rfl (B8) (AA4 b w X T L g gi hx h0 gg hl) (A1 (A0 rfl) (A1 (A0 rfl) A7))) ?_
 refine R5 ?_
 refine E5 [(2, _), (3, _), (4, _), (21, _), (22, _)] _ (fun (i : Nat) => i ≤ 2 ∧ ([leadSure gi, leadFull gi].any fun s => s.Held.any f) = (([leadSure gi, leadFull gi].drop i).any fun s => s.Held.any f)) (fun (i : Nat) => []) (fun (i : Nat) => [(23, AV.int i)]) (fun (i : Nat) => 2 - i) (0) ?_ (F2 ⟨rfl, rfl, rfl, rfl, rfl, rfl, trivial⟩) ?_
 ·exact ⟨Nat.zero_le _, rfl⟩
 intro i hinv
 have hinv0 := hinv
 refine R5 ?_
 refine A8 (A0 rfl) ?_ ?_
 ·intro h24
  have k24 := of_decide_eq_true h24; try simp only [A5] at k24
  have hlt : i < 2 := (by simp only [P0] at k24; omega)
  obtain ⟨s, hs⟩ := get_some (show i < [leadSure gi, leadFull gi].length from hlt)
  have hs12 := hsl s (C6 hs)
  have hs2 : ([leadSure gi, leadFull gi].map G6.cs)[i]? = some s.cs := L9 hs
  refine R5 ?_
  refine A4 rfl (AA6 rfl Tryz.underlying140 P3 (A0 rfl) (A0 rfl) qz8 (by rw [Int.toNat_natCast]; exact hs2)) ?_
  refine R2 ?_
  intro b12
  refine R10 ?_
  refine E5 [(2, _), (3, _), (4, _), (12, _), (21, _), (22, _), (23, _), (24, _), (25, _), (26, _), (27, _), (28, _), (29, _)] _ (fun (j : Nat) => j ≤ s.Held.length ∧ s.Held.any f = (s.Held.drop j).any f) (fun (j : Nat) => []) (fun (j : Nat) => [(30, AV.int j)]) (fun (j : Nat) => s.Held.length - j) (0) ?_ (F2 ⟨rfl, rfl, rfl, rfl, rfl, rfl, rfl, rfl, rfl, rfl, rfl, rfl, rfl, rfl, trivial⟩) ?_
  ·exact ⟨Nat.zero_le _, rfl⟩
  intro j hinv
  have hinv1 := hinv
  refine R5 ?_
  refine A8 (A0 rfl) ?_ ?_
  ·intro h31
   have k31 := of_decide_eq_true h31; try simp only [A5] at k31
   have hlt1 : j < s.Held.length := (by simpa using h31)
   obtain ⟨y, hh⟩ := get_some hlt1
   refine R5 ?_
   refine A4 rfl (C7 rfl J1 O7 (A0 rfl) (A0 rfl) hh qz4) ?_
   refine R2 ?_
   intro b14
   refine R12 ?_
   refine L3 rfl (fun hc => B2 rfl Tryz.call50 rfl (AO1 _ _) (A1 (B1 rfl hc) (A1 (B1 rfl hc) A7))) ?_
   refine R6 ?_
   refine f5 rfl rfl (V1 rfl rfl rfl) (fun hc => B2 rfl Tryz.call250 rfl (BJ1 _ _) (A1 (B1 rfl hc) (A1 (B1 rfl hc) A7))) ?_
   refine R4 ?_
   refine A8 (A0 rfl) ?_ ?_
   ·intro h52
    have hyes : ([leadSure gi, leadFull gi].any fun s => s.Held.any f) = true := List.any_eq_true.2 ⟨s, C6 hs, List.any_eq_true.2 ⟨y, C6 hh, by rw [hf]; exact h52⟩⟩
    rw [hyes]
    refine R5 ?_
    exact H4 [2, 2, 2, 2, 2, 2, 2] 2 (nin A3.ow w.Txns T ++ nin A2.ow w.Looks L) [] () (trivial) rfl (show List.Perm (nin A3.ow w.Txns T ++ nin A2.ow w.Looks L) ((nin A3.ow w.Txns T ++ nin A2.ow w.Looks L) ++ []) from B8) B0 (E6 rfl (A6 rfl B0))
   intro h52
   refine R5 ?_
   refine F3 j (j + 1) ?_ ?_ (O3 1 ⟨rfl, rfl, rfl, rfl, rfl, rfl, rfl, rfl, rfl, rfl, rfl, rfl, rfl, rfl, trivial⟩)
   ·exact ⟨by omega, by rw [hinv1.2, drop_some hh, List.any_cons, show f y = false by (rw [hf]; exact h52)]; rfl⟩
   omega
  intro h31
  have k31 := of_decide_eq_false h31; try simp only [A5] at k31
  have hge1 : s.Held.length ≤ j := (by simpa using h31)
  refine R5 ?_
  refine F3 i (i + 1) ?_ ?_ (O3 1 ⟨rfl, rfl, rfl, rfl, rfl, rfl, trivial⟩)
  ·exact ⟨by omega, by rw [hinv0.2, drop_some hs, List.any_cons, hinv1.2, List.drop_eq_nil_of_le hge1]; rfl⟩
  omega
 intro h24
 have k24 := of_decide_eq_false h24; try simp only [A5] at k24
 have hge : 2 ≤ i := (by simp only [P0] at k24; omega)
 rw [hinv.2, List.drop_eq_nil_of_le (show [leadSure gi, leadFull gi].length ≤ i from hge)]
 refine R6 ?_
 exact H4 [0, 0, 0, 0, 0, 0, 0] 0 (nin A3.ow w.Txns T ++ nin A2.ow w.Looks L) [] () (trivial) rfl (show List.Perm (nin A3.ow w.Txns T ++ nin A2.ow w.Looks L) ((nin A3.ow w.Txns T ++ nin A2.ow w.Looks L) ++ []) from B8) B0 (E6 rfl (A6 rfl B0))
theorem AG8 (b : Nat) (w : TWorld) (X : WX) (T : List (Value × Value)) (L : List Value) (g : Int) (gi : TGroup) (hx : w.Groups[g.toNat]? = some gi) (h0 : 0 ≤ g) (hg : WG gi) : C8 Tryz.prog 184 [AV.ptr b 0, AV.int g] (WB b w X T L) (fun v : TGroup => WG v) (fun v => WB b (wGroup w g.toNat v) X T L) (fun _ => AV.tup []) := by
 have hgl := (List.getElem?_eq_some_iff.1 hx).1
 refine C3 Tryz.func184 rfl Tryz.ntmps184 rfl ?_
 refine R6 ?_
 refine AWP.le (C1 [2] rfl) ?_
 refine J7 [(0, _), (1, _)] _ (fun (r : Nat) (v : TGroup) => r ≤ 3 ∧ WG v) (fun (r : Nat) (v : TGroup) => [.arr X.gr 178 3 ((w.Groups.set g.toNat v).map TGroup.cs)]) (fun (r : Nat) (v : TGroup) => [(4, AV.int r)]) (fun (r : Nat) (v : TGroup) => 3 - r) (0) (gi) ?_ (I8 (by (rw [Ah6 hx]; rfl)) ⟨rfl, rfl, rfl, trivial⟩) ?_
 ·exact ⟨Nat.zero_le _, hg⟩
 intro r v hinv
 have hvs := Ah5 hinv.2.good
 refine R6 ?_
 refine A8 (A0 rfl) ?_ ?_
 ·intro h10
  have k10 := of_decide_eq_true h10; try simp only [A5] at k10
  refine R11 ?_
  refine A4 rfl (D7 0 rfl G8 C9 (A0 rfl) rfl (A0 rfl) qz8 M3) ?_
  refine A4 rfl (X5 0 rfl (A0 rfl) rfl K3 C9 qz80 D0) ?_
  refine R1 ?_
  refine A4 rfl (B2 rfl Tryz.call194 rfl (Bq9 v r qz8) (A1 (A0 rfl) (A1 (A0 rfl) A7))) ?_
  refine R4 ?_
  intro b5
  refine R7 ?_
  refine A8 (A0 rfl) ?_ ?_
  ·intro h26
   refine L6 8 F1 F1 rfl ?_
   refine R7 ?_
   refine C2 rfl rfl (D7 1 rfl G8 C9 (A0 rfl) rfl (A0 rfl) qz8 M3) ?_
   refine R1 ?_
   refine N3 1 rfl rfl rfl (A0 rfl) (A0 rfl) (U4 _) rfl C9 rfl M3 ?_
   refine R6 ?_
   refine G9 r v (r + 1) ((j5 v r).1) ?_ ?_ (Le.trans (C1 [0, 0] rfl) (E3 1 (by first | rfl | (rw [← List.map_set, List.set_set]; rfl)) ⟨rfl, rfl, rfl, trivial⟩))
   ·exact ⟨by omega, wg_copy hinv.2 h26⟩
   omega
  intro h26
  refine R6 ?_
  refine G9 r v (r + 1) (v) ?_ ?_ (Le.trans (C1 [0, 0] rfl) (E3 1 (by first | rfl | (rw [← List.map_set, List.set_set]; rfl)) ⟨rfl, rfl, rfl, trivial⟩))
  ·exact ⟨by omega, hinv.2⟩
  omega
 intro h10
 have k10 := of_decide_eq_false h10; try simp only [A5] at k10
 refine R9 ?_
 refine A4 rfl (D7 0 rfl G8 C9 (A0 rfl) rfl (A0 rfl) qz8 M3) ?_
 refine A4 rfl (X5 0 rfl (A0 rfl) rfl K3 C9 qz80 D0) ?_
 refine A4 rfl (B2 rfl Tryz.call195 rfl (Bj7 v qz8) (A1 (A0 rfl) A7)) ?_
 refine R4 ?_
 intro b7
 refine R7 ?_
 refine A8 (A0 rfl) ?_ ?_
 ·intro h47
  refine L6 8 F1 F1 rfl ?_
  refine R7 ?_
  refine C2 rfl rfl (D7 1 rfl G8 C9 (A0 rfl) rfl (A0 rfl) qz8 M3) ?_
  refine R1 ?_
  refine N3 1 rfl rfl rfl (A0 rfl) (A0 rfl) (U4 _) rfl C9 rfl M3 ?_
  refine R1 ?_
  exact H4 [2, 2, 1, 1, 1, 1, 1] 1 (nin A3.ow w.Txns T ++ nin A2.ow w.Looks L) [] (((o5 v).1)) ((by first | exact wg_adv hinv.2 h47 | exact hinv.2)) rfl (show List.Perm (nin A3.ow w.Txns T ++ nin A2.ow w.Looks L) ((nin A3.ow w.Txns T ++ nin A2.ow w.Looks L) ++ []) from B8) qz187 (N4 rfl D0 E8)
 intro h47
 refine R1 ?_
 exact H4 [2, 2, 1, 1, 1, 1, 1] 1 (nin A3.ow w.Txns T ++ nin A2.ow w.Looks L) [] (v) ((by first | exact wg_adv hinv.2 h47 | exact hinv.2)) rfl (show List.Perm (nin A3.ow w.Txns T ++ nin A2.ow w.Looks L) ((nin A3.ow w.Txns T ++ nin A2.ow w.Looks L) ++ []) from B8) qz187 (N4 rfl D0 E8)
end Go.Proofs.YtcfkbhnpfjjmjaaGreat
namespace Go.M
open Go.AV
theorem CI8 {g : TGroup} {r : L2} (h : (e6 g r).2 = true) : 0 ≤ g.Lead := by
  unfold e6 at h
  split at h
  · rename_i hc
    rw [Bool.and_eq_true] at hc
    exact (AI5.1 hc.1.1).2.1
  · cases h
end Go.M
namespace Go.Proofs.YtcfkbhnpfjjmjaaGreat
open Go Go.AV Go.M
attribute [local irreducible] OpW OpA OpS AWP B9 J5 C8 OpE RetOk H1 I9 Le Ev F6 J9 V9 Int.tmod Int.tdiv IntKind.wrap bandI
def F0.ocs (r : F0) (y : Value) : List AV := [AV.bool r.Up, AV.is y, AV.int r.Sure]
def F0.ow (r : F0) (y : Value) : List Go.AV.Own := [.arr y 226 8 (r.Log.map J4.cs)]
theorem F0.lcM {own : List Go.AV.Own} (r : F0) (y : Value) (h : ∀ o ∈ F0.ow r y, o ∈ own) : Z9 own (F0.ocs r y) r.cs := D1 H0 (D1 (J3 (h _ (C6 (i := 0) rfl)) F5) f6)
theorem CB5 (g : TGroup) (hs : g.size ≤ 1048576) : C8 Tryz.prog 166 [AV.agg g.cs] [] (fun x : Value × List Value => x.2.length = g.Reps.length) (fun x => .arr x.1 207 3 (nrows F0.ocs g.Reps x.2) :: nin F0.ow g.Reps x.2) (fun x => AV.agg [AV.is x.1, AV.int g.Term, AV.int g.Lead]) := by
 have hrs : sizeL F0.size g.Reps ≤ 1048576 := hs
 have hll : g.Reps.length ≤ 1048576 := Nat.le_trans L7 hrs
 refine C3 Tryz.func166 rfl Tryz.ntmps166 rfl ?_
 refine R3 ?_
 intro b1
 refine R1 ?_
 intro b2
 refine R3 ?_
 refine N8 rfl rfl rfl rfl F8 I6 ?_
 intro v5
 refine R4 ?_
 refine S4 0 rfl fun one_v5 => ?_
 refine A4 rfl (W8 (places := #[(0, 1), (1, 1), (2, 1)]) rfl S2 Tryz.zeroValue178 (fun w => by kernel_rfl) rfl (E0 (A0 rfl) (M0 one_v5) (E0 (A0 rfl) (M5 _ _) (E0 (A0 rfl) (M5 _ _) T9))) rfl) ?_
 refine R1 ?_
 intro b3
 refine R8 ?_
 refine AWP.le (C1 [0, 1, 1, 0] rfl) ?_
 refine T8 [(1, _), (2, _), (3, _)] [] (fun (i : Nat) (v : Value) (xs : List Value) => i ≤ g.Reps.length ∧ xs.length = i) (fun (i : Nat) (v : Value) (xs : List Value) => [.box b3 178 [AV.is v, AV.int g.Term, AV.int g.Lead], .box b2 178 (List.map zeroA (Value.agg #[Value.slice none 0 0, Value.int IntKind.i64 0, Value.int IntKind.i64 0]).cells.toList), .box b1 178 g.cs, .arr v 207 3 (nrows F0.ocs (g.Reps.take i) xs)] ++ (nin F0.ow (g.Reps.take i) xs)) (fun (i : Nat) (v : Value) (xs : List Value) => [(4, AV.int i)]) (fun (i : Nat) (v : Value) (xs : List Value) => g.Reps.length - i) (0) (v5) ([]) ?_ (I8 B0 ⟨rfl, rfl, rfl, rfl, trivial⟩) ?_
 ·exact ⟨Nat.zero_le _, rfl⟩
 intro i v xs hinv
 refine I5 (List.append_nil _) ?_
 refine R9 ?_
 refine A8 (A0 rfl) ?_ ?_
 ·intro h15
  have k15 := of_decide_eq_true h15; try simp only [A5] at k15
  have hlt : i < g.Reps.length := (by simpa using h15)
  obtain ⟨x, hx⟩ := get_some hlt
  have hsx : sizeL J4.size x.Log ≤ 1048576 := Nat.le_trans (X1 (f := F0.size) hx) hrs
  refine R3 ?_
  refine M7 _ [(0, false), (1, false), (2, false), (3, false), (4, false), (5, false), (6, false), (7, false), (8, false), (9, false), (10, false), (11, false), (12, false), (13, false), (15, false), (16, false), (17, false), (18, false), (19, false), (20, false), (14, true), (21, false), (22, false), (23, true)] F1 F1 rfl (P1 3) ?_
  refine R5 ?_
  refine M8 rfl rfl rfl (fun ext => C7 rfl F8 I6 (A0 rfl) (A0 rfl) hx qz4) ?_
  refine R5 ?_
  refine M8 rfl rfl rfl (fun ext => C7 rfl F8 I6 (A0 rfl) (A0 rfl) hx qz4) ?_
  refine R5 ?_
  refine M8 rfl rfl rfl (fun ext => C7 rfl F8 I6 (A0 rfl) (A0 rfl) hx qz4) ?_
  refine R2 ?_
  refine S1 rfl rfl rfl (S6 4 (fun _ => rfl) (Y6 4 (P2 [] rfl Tryz.call182 rfl (Au1 x.Log hsx) (A1 (A0 rfl) A7) rfl))) (fun a _ => qz3) ?_
  intro x32 ok32
  have one_x32 := ok32.2
  replace ok32 := ok32.1
  refine M8 rfl rfl rfl (fun ext => W8 (places := #[(0, 1), (1, 1), (2, 1)]) rfl Z4 Tryz.zeroValue207 (fun w => by kernel_rfl) rfl (E0 (A0 rfl) (y7 _) (E0 (A0 rfl) (M0 one_x32) (E0 (A0 rfl) (M5 _ _) T9))) rfl) ?_
  refine R1 ?_
  refine S1 rfl rfl rfl (J8 (by' := 40) 3 rfl F8 Tryz.type207 rfl rfl rfl rfl rfl rfl (A0 rfl) (A0 rfl) rfl BB8) (fun a _ => qz3) ?_
  intro v41_1 _
  refine R2 ?_
  refine S4 3 rfl fun one_v41_1 => ?_
  refine P6 0 rfl rfl rfl (A0 rfl) (A0 rfl) (M0 one_v41_1) rfl r9 rfl ?_
  refine R1 ?_
  refine AWP.le (C1 [0, 0, 0, 0, 0] rfl) ?_
  refine AWP.le (O2 4 (t := nin F0.ow (g.Reps.take (i + 1)) (xs ++ [x32])) (AK0 (ow := F0.ow) (x := x32) hx hinv.2)) ?_
  refine R5 ?_
  refine N7 i v xs (i + 1) (v41_1) (xs ++ [x32]) ?_ ?_ (Le.trans (C1 [0, 0, 0, 0] rfl) (I8 (Eq.trans (by exact congrArg (fun z => Go.AV.Own.box _ _ _ :: Go.AV.Own.box _ _ _ :: Go.AV.Own.box _ _ _ :: Go.AV.Own.arr _ _ _ z :: _) (AG2 hx hinv.2)) (List.append_nil _).symm) ⟨rfl, rfl, rfl, rfl, trivial⟩))
  ·exact ⟨by omega, by rw [G2, hinv.2]; rfl⟩
  omega
 intro h15
 have k15 := of_decide_eq_false h15; try simp only [A5] at k15
 have hge : i = g.Reps.length := (by have h9 : g.Reps.length ≤ i := (by simpa using h15); omega)
 have hxs := hinv.2.trans hge
 rw [show g.Reps.take i = g.Reps from List.take_of_length_le qz8]
 refine R7 ?_
 exact H4 [3] 3 (nin F0.ow g.Reps xs) [] (v, xs) (hxs) rfl (show List.Perm (nin F0.ow g.Reps xs) ((nin F0.ow g.Reps xs) ++ []) from B8) B0 (E6 rfl (G7 (ys := _) 1 rfl rfl K3 C9 rfl))
theorem CI9 {own : List Go.AV.Own} {l : List F0} {xs : List Value} {k : Nat} (hm : ∀ o ∈ nin F0.ow (l.eraseIdx k) (xs.eraseIdx k), o ∈ own) {j : Nat} {p : F0} {x : Value} (hp : l[j]? = some p) (hx : xs[j]? = some x) (hj : j ≠ k) : ∀ o ∈ F0.ow p x, o ∈ own := fun o ho => by
  by_cases h : j < k
  · exact hm o (Ax2 (i := j) (by rw [List.getElem?_eraseIdx, if_pos h]; exact hp) (by rw [List.getElem?_eraseIdx, if_pos h]; exact hx) o ho)
  · exact hm o (Ax2 (i := j - 1) (by rw [List.getElem?_eraseIdx, if_neg qz8, show j - 1 + 1 = j by omega]; exact hp) (by rw [List.getElem?_eraseIdx, if_neg qz8, show j - 1 + 1 = j by omega]; exact hx) o ho)
theorem CJ0 {own : List Go.AV.Own} {l : List F0} {xs : List Value} {k : Nat} {p p' : F0} {y : Value} (hlen : xs.length = l.length) (hp : l[k]? = some p) (hy : xs[k]? = some y) (hm : ∀ o ∈ nin F0.ow (l.eraseIdx k) (xs.eraseIdx k), o ∈ own) : AS8 own (nrows F0.ocs (l.take k) (xs.take k) ++ p'.cs :: nrows F0.ocs (l.drop (k + 1)) (xs.drop (k + 1))) ((l.set k p').map F0.cs) := by
  have hk := (List.getElem?_eq_some_iff.1 hp).1
  have ht := s6 (ocs := F0.ocs) hp hy
  refine ⟨by rw [Al0 hp hy hlen, A5, List.length_set], fun j a b ha hb => ?_⟩
  rw [List.getElem?_map] at hb
  by_cases hj : j = k
  · subst hj
    rw [List.getElem?_set_self hk] at hb
    rw [List.getElem?_append_right qz8, ht, Nat.sub_self, Aj1] at ha
    injection ha with ha; injection hb with hb; subst ha; subst hb
    exact f6
  · rw [List.getElem?_set_ne (fun e => hj e.symm)] at hb
    cases hq : l[j]? with
    | none => rw [hq] at hb; cases hb
    | some q =>
      rw [hq] at hb
      injection hb with hb
      have hjl := (List.getElem?_eq_some_iff.1 hq).1
      obtain ⟨x, hx⟩ : ∃ x, xs[j]? = some x := ⟨_, List.getElem?_eq_getElem qz8⟩
      have ha2 : (nrows F0.ocs l xs)[j]? = some a := by
        rw [u3 hp hy]
        by_cases h : j < k
        · rw [List.getElem?_append_left qz8] at ha ⊢; exact ha
        · rw [List.getElem?_append_right qz8] at ha ⊢
          obtain ⟨m, hm9⟩ : ∃ m, j - (nrows F0.ocs (l.take k) (xs.take k)).length = m + 1 := ⟨j - k - 1, by omega⟩
          rw [hm9] at ha ⊢
          rw [AV6] at ha ⊢
          exact ha
      rw [Q3 hq hx] at ha2
      injection ha2 with ha2
      subst ha2; subst hb
      exact F0.lcM q x (CI9 hm hq hx hj)
theorem Br2 (R : List F0) (tm : Int) (k : Nat) (L : F0) (r : L2) (hL : R[k]? = some L) (hs : (TGroup.mk R tm k).size ≤ 1000000) (hrs : r.size ≤ 1000) (hg : goodGroup ⟨R, tm, k⟩ = true) (hgr : goodRec r = true) (hlen : L.Log.length < 60) : C8 Tryz.prog 190 [AV.agg (TGroup.mk R tm k).cs, AV.agg r.cs] [] (fun x : Value × List Value => x.2.length = R.length) (fun x => .arr x.1 207 3 (nrows F0.ocs (R.take k) (x.2.take k) ++ (F0.mk L.Up (L.Log ++ [⟨tm, r⟩]) L.Sure).cs :: nrows F0.ocs (R.drop (k + 1)) (x.2.drop (k + 1))) :: nin F0.ow (R.eraseIdx k) (x.2.eraseIdx k)) (fun x => AV.tup [AV.agg [AV.is x.1, AV.int tm, AV.int (k : Int)], AV.bool true]) := by
 have hrsz : sizeL F0.size R ≤ 1000000 := hs
 have hkl := (List.getElem?_eq_some_iff.1 hL).1
 have hll : R.length ≤ 1000000 := Nat.le_trans L7 hrsz
 have hlsz : sizeL J4.size L.Log ≤ 1000000 := Nat.le_trans (X1 (f := F0.size) hL) hrsz
 have hnew : sizeL J4.size (L.Log ++ [⟨tm, r⟩]) ≤ 1048576 := by
  have e : sizeL J4.size (L.Log ++ [⟨tm, r⟩]) = sizeL J4.size L.Log + (1 + r.size) := by
   unfold sizeL; rw [List.map_append, List.sum_append]; simp [J4.size]; omega
  omega
 have hld : (TGroup.mk R tm (k : Int)).Lead = (k : Int) := rfl
 have hrl : (TGroup.mk R tm (k : Int)).Reps.length = R.length := rfl
 have hcall : B9 Tryz.prog 182 [AV.list 8 (L.Log.map J4.cs ++ [J4.cs (J4.mk tm r)])] (AV.list 8 ((L.Log ++ [J4.mk tm r]).map J4.cs)) := by
  have h := AV0 (L.Log ++ [⟨tm, r⟩]) hnew
  rw [List.map_append] at h ⊢
  exact h
 refine C3 Tryz.func190 rfl Tryz.ntmps190 rfl ?_
 refine R3 ?_
 intro b2
 refine R1 ?_
 intro b3
 refine R1 ?_
 intro b4
 refine R6 ?_
 refine A4 rfl (B2 rfl Tryz.call205 rfl (AD3 _ T0) (A1 (A0 rfl) A7)) ?_
 refine R8 ?_
 refine P4 rfl (fun hc => B2 rfl Tryz.call207 rfl (Aa0 _ T0) (A1 (B1 rfl hc) A7)) ?_
 refine R7 ?_
 refine P4 rfl (fun hc => C7 rfl F8 I6 (B1 rfl hc) (B1 rfl hc) hL qz6) ?_
 refine R6 ?_
 refine A8 (A0 rfl) ?_ ?_
 ·intro h30
  exfalso; rw [hg, ← AN4, hgr] at h30; simp at h30; omega
 intro h30
 refine R4 ?_
 refine I2 [] 3 1 ([]) ([]) (fun zz => nin F0.ow R zz.2) rfl rfl rfl rfl Tryz.call166 rfl rfl (show List.Perm ([]) (([]) ++ ([])) from List.Perm.refl _) (CB5 ⟨R, tm, k⟩ qz8) (A1 (A0 rfl) A7) (fun a => K0) ?_
 intro x33 ok33
 refine R1 ?_
 intro b6
 refine R3 ?_
 have hln : x33.2.length = R.length := ok33
 obtain ⟨y, hy⟩ := get_some (show k < x33.2.length by omega)
 rw [u3 hL hy]
 refine AWP.le (O2 5 (t := ([Go.AV.Own.arr y 226 8 (L.Log.map J4.cs)]) ++ (nin F0.ow (R.eraseIdx k) (x33.2.eraseIdx k))) (z6 (ow := F0.ow) hL hy)) ?_
 refine M7 _ [(0, false), (1, false), (2, false), (3, false), (4, false), (5, false), (6, false), (7, false), (8, false), (9, false), (10, false), (11, false), (12, false), (13, false), (14, false), (15, false), (16, true), (17, false)] F1 F1 rfl (P1 5) ?_
 refine R8 ?_
 refine M8 rfl rfl rfl (fun ext => D7 1 rfl F8 I6 (A0 rfl) rfl (A0 rfl) qz8 (by rw [Al0 hL hy hln]; omega)) ?_
 refine M8 rfl rfl rfl (fun ext => J2 1 rfl Z4 rfl Tryz.sizeOf205 (A0 rfl) rfl rfl (AL5 (s6 hL hy))) ?_
 refine M8 rfl rfl rfl (fun ext => K5 1 rfl (A0 rfl) rfl Tryz.isAgg205 (AL5 (s6 hL hy)) rfl) ?_
 refine R5 ?_
 refine S1 rfl rfl rfl (AE3 [5] (fun _ => rfl) (fun _ => J3 (C6 (i := 0) rfl) F5) (fun _ => M9) (J8 (by' := 96) 5 rfl N6 Tryz.type226 rfl rfl rfl rfl rfl rfl (A0 rfl) (A0 rfl) rfl qz4)) (fun a _ => qz3) ?_
 intro v50_1 _
 refine M8 rfl rfl rfl (fun ext => B2 rfl Tryz.call182 rfl (hcall) (A1 (A0 rfl) A7)) ?_
 refine R1 ?_
 refine A4 rfl (D7 1 rfl F8 I6 (A0 rfl) rfl (A0 rfl) qz8 (by rw [Al0 hL hy hln]; omega)) ?_
 refine A4 rfl (J2 1 rfl Z4 rfl Tryz.sizeOf205 (A0 rfl) rfl rfl (AL5 (s6 hL hy))) ?_
 refine Ak5 1 rfl rfl rfl (A0 rfl) (A0 rfl) (Y5 _ _) rfl Tryz.sizeOf205 (s6 hL hy) rfl ?_
 refine R8 ?_
 exact H4 [1] 4 (nin F0.ow (R.eraseIdx k) (x33.2.eraseIdx k)) [] (x33.1, x33.2) (ok33) rfl (show List.Perm (nin F0.ow (R.eraseIdx k) (x33.2.eraseIdx k)) ((nin F0.ow (R.eraseIdx k) (x33.2.eraseIdx k)) ++ []) from B8) B0 (N4 rfl D0 (B6 (G7 (ys := _) 2 rfl rfl K3 C9 rfl) (B6 (A6 rfl B0) E8)))
end Go.Proofs.YtcfkbhnpfjjmjaaGreat
namespace Go.M
open Go.AV
theorem put_in {g : TGroup} {r : L2} (hc : (!((!goodGroup g || decide (g.Lead < 0)) || !l4Good r)) = true) : 0 ≤ g.Lead ∧ g.Lead < g.Reps.length := by
  simp only [Bool.not_eq_true', Bool.or_eq_false_iff, Bool.not_eq_false', decide_eq_false_iff_not] at hc
  have gg := r8.1 hc.1.1
  rcases gg.lead with e | ⟨a, b, _⟩
  · have := hc.1.2; omega
  · exact ⟨a, b⟩
theorem CB6 {g : TGroup} {r : L2} (hno : (e6 g r).2 = false) (h : (((!goodGroup g || decide (g.Lead < 0)) || !l4Good r) || decide ((((repAt g g.Lead).Log.map J4.cs).length : Int) ≥ 60)) = false) : False := by
  rw [A5] at h
  simp only [Bool.or_eq_false_iff, Bool.not_eq_false', decide_eq_false_iff_not] at h
  have hl : hasLead g = true := by unfold hasLead; rw [h.1.1.1, decide_eq_true (by have := h.1.1.2; omega)]; rfl
  unfold e6 at hno
  rw [if_pos ⟨by rw [hl, AN4, h.1.2]; rfl, by have := h.2; omega⟩] at hno
  cases hno
end Go.M
namespace Go.Proofs.YtcfkbhnpfjjmjaaGreat
open Go Go.AV Go.M
attribute [local irreducible] OpW OpA OpS AWP B9 J5 C8 OpE RetOk H1 I9 Le Ev F6 J9 V9 Int.tmod Int.tdiv IntKind.wrap bandI
theorem Br3 (g : TGroup) (r : L2) (hs : g.size ≤ 1048576) (hrs : r.size ≤ 1000) (hno : (e6 g r).2 = false) : B9 Tryz.prog 190 [AV.agg g.cs, AV.agg r.cs] (AV.tup [AV.agg zGroup.cs, AV.bool false]) := by
 refine B7 Tryz.func190 rfl Tryz.ntmps190 rfl ?_
 refine R3 ?_
 intro b2
 refine R1 ?_
 intro b3
 refine R1 ?_
 intro b4
 refine R6 ?_
 refine A4 rfl (B2 rfl Tryz.call205 rfl (AD3 _ T0) (A1 (A0 rfl) A7)) ?_
 refine R8 ?_
 refine P4 rfl (fun hc => B2 rfl Tryz.call207 rfl (Aa0 _ T0) (A1 (B1 rfl hc) A7)) ?_
 refine R7 ?_
 refine P4 rfl (fun hc => C7 rfl F8 I6 (B1 rfl hc) (B1 rfl hc) (c0 (put_in hc)) (by have h9 := (put_in hc).1; omega)) ?_
 refine R6 ?_
 refine A8 (A0 rfl) ?_ ?_
 ·intro h30
  refine R7 ?_
  refine Af0 0 0 3 rfl rfl ?_
  exact W6 rfl D0 (B6 (G7 (ys := _) 0 rfl rfl K3 C9 rfl) (B6 (A6 rfl B0) E8))
 intro h30
 exact (CB6 hno h30).elim
theorem Bb3 (g : TGroup) (r : L2) (hs : g.size ≤ 1000000) (hrs : r.size ≤ 1000) : B9 Tryz.prog 190 [AV.agg g.cs, AV.agg r.cs] (AV.tup [AV.agg (e6 g r).1.cs, AV.bool (e6 g r).2]) := by
  by_cases h : (hasLead g && goodRec r) = true ∧ (repAt g g.Lead).Log.length < 60
  · have he : e6 g r = (setRep g g.Lead ⟨(repAt g g.Lead).Up, (repAt g g.Lead).Log ++ [⟨g.Term, r⟩], (repAt g g.Lead).Sure⟩, true) := if_pos h
    have hh := h.1
    rw [Bool.and_eq_true] at hh
    obtain ⟨gg, l0, l1, hup⟩ := AI5.1 hh.1
    have hL := c0 (g := g) (r := g.Lead) ⟨l0, l1⟩
    rw [he]
    obtain ⟨R, tm, ld⟩ := g
    obtain ⟨k, hk⟩ : ∃ k : Nat, ld = (k : Int) := ⟨ld.toNat, (Int.toNat_of_nonneg l0).symm⟩
    subst hk
    refine K2 (Br2 R tm k (repAt ⟨R, tm, k⟩ k) r hL hs hrs (r8.2 gg) hh.2 h.2) fun x hx => ?_
    have hkl := (List.getElem?_eq_some_iff.1 hL).1
    have hxl : x.2.length = R.length := hx
    obtain ⟨y, hy⟩ : ∃ y, x.2[k]? = some y := ⟨_, List.getElem?_eq_getElem (show k < x.2.length by rw [hxl]; exact hkl)⟩
    exact p4 (D1 (AY6 (D1 (J3 List.mem_cons_self (CJ0 hxl hL hy fun o ho => List.mem_cons_of_mem _ ho)) f6)) (D1 H0 V2))
  · have he : e6 g r = (zGroup, false) := if_neg h
    rw [he]
    exact Br3 g r qz8 hrs (by rw [he])
theorem AG9 (b : Nat) (w : TWorld) (X : WX) (T : List (Value × Value)) (L : List Value) (g : Int) (r : L2) (gi : TGroup) (hx : w.Groups[g.toNat]? = some gi) (h0 : 0 ≤ g) (hg : WG gi) (hr : r.size ≤ 1000) (hk : BM5 r) : C8 Tryz.prog 178 [AV.ptr b 0, AV.int g, AV.agg r.cs] (WB b w X T L) (fun v : TGroup × Bool => WG v.1) (fun v => WB b (wGroup w g.toNat v.1) X T L) (fun v => AV.bool v.2) := by
 have hgl := (List.getElem?_eq_some_iff.1 hx).1
 have hvs := Ah5 hg.good
 refine C3 Tryz.func178 rfl Tryz.ntmps178 rfl ?_
 refine R3 ?_
 intro b5
 refine R3 ?_
 refine P5 _ 15 (.pure 0 (.pure 1 (.pure 2 (.pure 3 (.pure 4 (.pure 5 (.pure 6 (.pure 7 (.pure 8 (.pure 9 (.pure 10 (.pure 11 (.pure 12 (.e1 13 (.e1 14 .nil))))))))))))))) F1 F1 rfl (P1 8) ?_
 refine R6 ?_
 refine J0 rfl rfl rfl (fun ext => D7 3 rfl G8 C9 (A0 rfl) rfl (A0 rfl) qz8 M3) ?_
 refine J0 rfl rfl rfl (fun ext => X5 3 rfl (A0 rfl) rfl K3 C9 qz5 D0) ?_
 refine R1 ?_
 refine J0 rfl rfl rfl (fun ext => B2 rfl Tryz.call190 rfl (Bb3 gi r qz8 qz8) (A1 (A0 rfl) (A1 (A0 rfl) A7))) ?_
 refine R4 ?_
 refine E1 rfl rfl rfl (Y6 8 <| Q6 rfl Tryz.zeroValue178 rfl) (fun a _ => qz3) ?_
 intro b7 _
 refine R1 ?_
 refine W1 rfl rfl rfl (U5 8 rfl rfl (A0 rfl) (A0 rfl) (U4 _) rfl C9 rfl) (fun a _ => qz3) ?_
 intro _ _
 refine R9 ?_
 refine A8 (A0 rfl) ?_ ?_
 ·intro h23
  rw [show (e6 gi r).2 = false by simpa using h23] at *
  refine R5 ?_
  exact H4 [1, 1, 1, 1, 1, 1, 1] 2 (nin A3.ow w.Txns T ++ nin A2.ow w.Looks L) [] ((gi, false)) ((by first | exact hg | exact ok34)) rfl (show List.Perm (nin A3.ow w.Txns T ++ nin A2.ow w.Looks L) ((nin A3.ow w.Txns T ++ nin A2.ow w.Looks L) ++ []) from B8) qz156 (E6 rfl (A6 rfl B0))
 intro h23
 have hpo : (e6 gi r).2 = true := Ai2
 have hld : 0 ≤ gi.Lead := CI8 hpo
 have hwp := wg_put hg hld hk hpo
 have hsp := AG8 b (wGroup w g.toNat (e6 gi r).1) X T L g (e6 gi r).1 (B5 hx) h0 hwp
 refine R2 ?_
 refine L6 8 F1 F1 rfl ?_
 refine R7 ?_
 refine C2 rfl rfl (D7 3 rfl G8 C9 (A0 rfl) rfl (A0 rfl) qz8 M3) ?_
 refine R1 ?_
 refine N3 3 rfl rfl rfl (A0 rfl) (A0 rfl) (U4 _) rfl C9 rfl M3 ?_
 refine R2 ?_
 simp only [← List.map_set]
 refine R3 ?_
 refine I2 [1, 1, 1, 1, 1, 1, 1] 2 7 (nin A3.ow w.Txns T ++ nin A2.ow w.Looks L) ([]) (fun zz => nin A3.ow w.Txns T ++ nin A2.ow w.Looks L) rfl rfl rfl rfl Tryz.call184 rfl rfl (show List.Perm (nin A3.ow w.Txns T ++ nin A2.ow w.Looks L) ((nin A3.ow w.Txns T ++ nin A2.ow w.Looks L) ++ ([])) from B8) (hsp) (A1 (A0 rfl) (A1 (A0 rfl) A7)) (fun a => K0) ?_
 intro x34 ok34
 refine R6 ?_
 exact H4 [0, 0, 0, 0, 0, 0, 0] 2 (nin A3.ow w.Txns T ++ nin A2.ow w.Looks L) [] ((x34, true)) ((by first | exact hg | exact ok34)) rfl (show List.Perm (nin A3.ow w.Txns T ++ nin A2.ow w.Looks L) ((nin A3.ow w.Txns T ++ nin A2.ow w.Looks L) ++ []) from B8) qz156 (E6 rfl (A6 rfl B0))
theorem agg_w {xs ys : List AV} (hl : xs.length = ys.length) (h : ∀ (i : Nat) (x y : AV), xs[i]? = some x → ys[i]? = some y → ∀ R v, x.den R v → y.den R v) (R : F9) (v : Value) (hv : (AV.agg xs).den R v) : (AV.agg ys).den R v := by
  obtain ⟨vs, e, hl2, hd⟩ := hv
  refine ⟨vs, e, hl2.trans hl, fun i u y hu hy => ?_⟩
  have hi : i < xs.length := by rw [hl]; exact (List.getElem?_eq_some_iff.1 hy).1
  obtain ⟨h1, h2⟩ := hd i u _ hu (List.getElem?_eq_getElem hi)
  exact ⟨h i _ y (List.getElem?_eq_getElem hi) hy _ _ h1, h2⟩
theorem AM2 {k t tm l : Int} {y : Bool} (R : F9) (v : Value) (h : (AV.agg [AV.int k, AV.int t, AV.int tm, AV.int l, AV.nils, AV.nils, AV.bool y]).den R v) : (AV.agg (L2.cs ⟨k, t, tm, l, [], [], y⟩)).den R v := by
  refine agg_w (xs := [AV.int k, AV.int t, AV.int tm, AV.int l, AV.nils, AV.nils, AV.bool y]) (ys := L2.cs ⟨k, t, tm, l, [], [], y⟩) rfl (fun i x z hx hz => ?_) R v h
  rcases i with _ | _ | _ | _ | _ | _ | _ | i
  all_goals first
    | (injection hx with hx; injection hz with hz; subst hx; subst hz; first | exact fun _ _ h => h | exact BS3)
    | (cases hx)
theorem third {node : Int} {n : Nat} (hn : 0 ≤ node ∧ node < 3 * (n : Int)) {q m : Int} (hq : Int.tdiv node 3 = q) (hm : Int.tmod node 3 = m) : 0 ≤ q ∧ q < n ∧ 0 ≤ m ∧ m < 3 ∧ node = 3 * q + m := by
  rw [Int.tdiv_eq_ediv_of_nonneg hn.1] at hq
  rw [Int.tmod_eq_emod_of_nonneg hn.1] at hm
  omega
theorem BW9 (b : Nat) (w : TWorld) (X : WX) (T : List (Value × Value)) (L : List Value) (node : Int) (hw : WI w) (hn : 0 ≤ node ∧ node < 3 * (w.Groups.length : Int)) : C8 Tryz.prog 165 [AV.ptr b 0, AV.int node] (WB b w X T L) (fun v : TWorld × Bool => WI v.1 ∧ WS w v.1 ∧ v.1.Txns = w.Txns ∧ v.1.Looks = w.Looks) (fun v => WB b v.1 X T L) (fun v => AV.bool v.2) := by
 obtain ⟨q, hq⟩ : ∃ q : Int, Int.tdiv node 3 = q := ⟨_, rfl⟩
 obtain ⟨m, hm⟩ : ∃ m : Int, Int.tmod node 3 = m := ⟨_, rfl⟩
 obtain ⟨h0, hql, hm0, hm3, hnq⟩ := third hn hq hm
 obtain ⟨gi, hx⟩ := get_some (show q.toNat < w.Groups.length by omega)
 have hgi := hw.groups gi (C6 hx)
 have hvs := Ah5 hgi.good
 have hng := hw.n
 have hgl := (List.getElem?_eq_some_iff.1 hx).1
 obtain ⟨lo, hlx⟩ := get_some (show q.toNat < w.Locks.length by rw [hw.locks.1]; omega)
 obtain ⟨pr, hpx⟩ := get_some (show q.toNat < w.Promised.length by rw [hw.promised.1]; omega)
 have hll := (List.getElem?_eq_some_iff.1 hlx).1
 have hpl := (List.getElem?_eq_some_iff.1 hpx).1
 obtain ⟨c, hcx⟩ := get_some (show node.toNat < w.Clocks.length by rw [hw.clocks.1]; omega)
 have hcg : goodClock c = true := by
  have h9 := hw.clocks.2 c (C6 hcx)
  unfold goodClock within; rw [Bool.and_eq_true, decide_eq_true_eq, decide_eq_true_eq]; exact h9
 have hnow : M.isTrue w.Now = true := by unfold M.isTrue within; rw [Bool.and_eq_true, decide_eq_true_eq, decide_eq_true_eq]; exact hw.now
 have hsp9 : -1000000 ≤ (g6 c w.Now).High ∧ (g6 c w.Now).High ≤ 1000000 := by
  have h9 := hw.clocks.2 c (C6 hcx)
  have h8 := hw.now
  show -1000000 ≤ w.Now + c.Off + 5 ∧ w.Now + c.Off + 5 ≤ 1000000
  omega
 have hwq : IntKind.i64.wrap q = q := Ae8 qz8
 refine C3 Tryz.func165 rfl Tryz.ntmps165 rfl ?_
 refine R7 ?_
 refine A4 rfl (w_quo rfl (A0 rfl) D8 qz4) ?_
 refine R3 ?_
 simp only [hq, hwq]
 refine R7 ?_
 refine A4 rfl (D7 2 rfl G8 C9 (A0 rfl) rfl (A0 rfl) qz8 M3) ?_
 refine A4 rfl (X5 2 rfl (A0 rfl) rfl K3 C9 qz5 D0) ?_
 refine R1 ?_
 refine A4 rfl (Aj5 rfl (A0 rfl) D8 qz4) ?_
 simp only [hm]
 refine A4 rfl (B2 rfl Tryz.call177 rfl (Ba9 gi m qz8) (A1 (A0 rfl) (A1 (A0 rfl) A7))) ?_
 refine R4 ?_
 intro b6
 refine R9 ?_
 refine A8 (A0 rfl) ?_ ?_
 ·intro h25
  have hpo : (electR gi m).2 = false := (by simpa using h25)
  refine R5 ?_
  exact H4 [1, 1, 1, 1, 1, 1, 1] 1 (nin A3.ow w.Txns T ++ nin A2.ow w.Looks L) [] ((w, false)) (qz141) rfl (show List.Perm (nin A3.ow w.Txns T ++ nin A2.ow w.Looks L) ((nin A3.ow w.Txns T ++ nin A2.ow w.Looks L) ++ []) from B8) B0 (E6 rfl (A6 rfl B0))
 intro h25
 have hpo : (electR gi m).2 = true := (by simpa using h25)
 have hwg := wg_elect hgi hpo
 have heg := BI3 hpo
 have hld : 0 ≤ (electR gi m).1.Lead := (by rw [heg.2.2.1]; exact hm0)
 have hgg2 : (w.Groups.set q.toNat (electR gi m).1)[q.toNat]? = some (electR gi m).1 := B5 hx
 have h1 := c3 hw (i := q.toNat) hwg
 have h2 := Bh7 h1.1 (i := q.toNat) (l := []) ⟨Nat.zero_le _, fun x hx => (by cases hx)⟩
 have h3 := Bv1 h2.1 (i := q.toNat) (p := 0) ⟨Int.le_refl 0, D0⟩
 have hfk := AA4 b (AD4 (wLocks (wGroup w q.toNat (electR gi m).1) q.toNat []) q.toNat 0) X T L q _ hgg2 h0 hwg.good hld
 have hsk := Ad1 b (AD4 (wLocks (wGroup w q.toNat (electR gi m).1) q.toNat []) q.toNat 0) X T L node c hcx hn.1 hcg hnow
 have hfl := (n6 hwg.good hld).floor
 have hpk := AG9 b (AD4 (wLocks (wGroup w q.toNat (electR gi m).1) q.toNat []) q.toNat 0) X T L q ⟨4, 0, X2 1 (X2 ((leadFull (electR gi m).1).Floor + 1) ((g6 c w.Now).High + 10)), 0, [], [], false⟩ _ hgg2 h0 hwg (show (0 : Nat) ≤ 1000 from by decide) (fun w9 hw9 => by cases hw9)
 refine R2 ?_
 refine L6 8 F1 F1 rfl ?_
 refine R7 ?_
 refine C2 rfl rfl (D7 3 rfl G8 C9 (A0 rfl) rfl (A0 rfl) qz8 M3) ?_
 refine R1 ?_
 refine N3 3 rfl rfl rfl (A0 rfl) (A0 rfl) (U4 _) rfl C9 rfl M3 ?_
 refine R9 ?_
 refine A4 rfl (D7 4 rfl S3 Z0 (A0 rfl) rfl (A0 rfl) qz8 M3) ?_
 refine N3 4 rfl rfl rfl (A0 rfl) (P8 (sz := 3)) (Y5 _ _) rfl Z0 rfl M3 ?_
 refine R9 ?_
 refine A4 rfl (D7 5 rfl B3 B4 (A0 rfl) rfl (A0 rfl) qz8 M3) ?_
 refine N3 5 rfl rfl rfl (A0 rfl) D8 (M5 _ _) rfl B4 rfl M3 ?_
 refine R2 ?_
 refine I5 (show _ = Go.AV.Own.box b6 178 (electR gi m).1.cs :: WB b (AD4 (wLocks (wGroup w q.toNat (electR gi m).1) q.toNat []) q.toNat 0) X T L from (by unfold WB AD4 wLocks wGroup; dsimp only; rw [List.map_set, List.map_set, List.map_set]; rfl)) ?_
 refine R5 ?_
 refine A4 rfl (X6 [1, 1, 1, 1, 1, 1, 1] 1 (nin A3.ow w.Txns T ++ nin A2.ow w.Looks L) ([]) rfl Tryz.call180 rfl rfl (B8) (hfk) (A1 (A0 rfl) (A1 (A0 rfl) A7))) ?_
 refine R2 ?_
 refine A4 rfl (X6 [1, 1, 1, 1, 1, 1, 1] 1 (nin A3.ow w.Txns T ++ nin A2.ow w.Looks L) ([]) rfl Tryz.call181 rfl rfl (B8) (hsk) (A1 (A0 rfl) (A1 (A0 rfl) A7))) ?_
 refine A4 rfl (B2 rfl Tryz.call179 rfl (Bb2 (leadFull (electR gi m).1) (g6 c w.Now) qz8 qz8) (A1 (A0 rfl) (A1 (A0 rfl) A7))) ?_
 refine R1 ?_
 refine I2 [1, 1, 1, 1, 1, 1, 1] 1 7 (nin A3.ow w.Txns T ++ nin A2.ow w.Looks L) ([]) (fun zz => nin A3.ow w.Txns T ++ nin A2.ow w.Looks L) rfl rfl rfl rfl Tryz.call178 rfl rfl (show List.Perm (nin A3.ow w.Txns T ++ nin A2.ow w.Looks L) ((nin A3.ow w.Txns T ++ nin A2.ow w.Looks L) ++ ([])) from B8) (hpk) (A1 (A0 rfl) (A1 (A0 rfl) (A1 (i9 (A0 rfl) AM2) A7))) (fun a => K0) ?_
 intro x58 ok58
 refine R6 ?_
 exact H4 [0, 0, 0, 0, 0, 0, 0] 1 (nin A3.ow w.Txns T ++ nin A2.ow w.Looks L) [] ((wGroup (AD4 (wLocks (wGroup w q.toNat (electR gi m).1) q.toNat []) q.toNat 0) q.toNat x58.1, true)) (qz141) rfl (show List.Perm (nin A3.ow w.Txns T ++ nin A2.ow w.Looks L) ((nin A3.ow w.Txns T ++ nin A2.ow w.Looks L) ++ []) from B8) B0 (E6 rfl (A6 rfl B0))
end Go.Proofs.YtcfkbhnpfjjmjaaGreat
namespace Go.M
open Go.AV
theorem Ad2 {α : Type} {l : List α} {i : Nat} {x : α} (hx : l[i]? = some x) : l.drop i = x :: l.drop (i + 1) := by
  obtain ⟨h, e⟩ := List.getElem?_eq_some_iff.1 hx
  rw [← e]; exact List.drop_eq_getElem_cons h
theorem takeX {α : Type} {l : List α} {i : Nat} {x : α} (hx : l[i]? = some x) : l.take (i + 1) = l.take i ++ [x] := by rw [List.take_add_one, hx]; rfl
theorem BX0 {l : List G4} {i : Nat} {x : G4} (hx : l[i]? = some x) : AB6 (l.take i) (l.drop i) = ((Ae1 x && !((l.take i).any fun h => h.Key == x.Key)) && AB6 (l.take (i + 1)) (l.drop (i + 1))) := by rw [Ad2 hx, takeX hx]; rfl
theorem Bk0 {l : List G4} {i : Nat} (h : l.length ≤ i) : AB6 (l.take i) (l.drop i) = true := by rw [List.drop_eq_nil_of_le h]; rfl
theorem Bk1 {m : Int} {o : List Int} {i : Nat} {n : Int} (hx : o[i]? = some n) : idxF9 m (o.take i) (o.drop i) = ((within n 0 (m - 1) && !((o.take i).any fun x => n == x)) && idxF9 m (o.take (i + 1)) (o.drop (i + 1))) := by rw [Ad2 hx, takeX hx]; rfl
theorem Bv9 {m : Int} {o : List Int} {i : Nat} (h : o.length ≤ i) : idxF9 m (o.take i) (o.drop i) = true := by rw [List.drop_eq_nil_of_le h]; rfl
theorem BA5 {h : List C5} {o : List Int} {i : Nat} {n : Int} (hx : o[i]? = some n) : keepsO h (o.drop i) = (((o.drop (i + 1)).all fun m => !ahead (deedAt h m) (deedAt h n)) && keepsO h (o.drop (i + 1))) := by rw [Ad2 hx]; rfl
theorem CB7 {h : List C5} {o : List Int} {i : Nat} (hh : o.length ≤ i) : keepsO h (o.drop i) = true := by rw [List.drop_eq_nil_of_le hh]; rfl
theorem AF0 {α : Type} {p : α → Bool} {l : List α} {i : Nat} {x : α} (hx : l[i]? = some x) : (l.drop i).any p = (p x || (l.drop (i + 1)).any p) := by rw [Ad2 hx, List.any_cons]
theorem Au3 {α : Type} {p : α → Bool} {l : List α} {i : Nat} {x : α} (hx : l[i]? = some x) : (l.drop i).all p = (p x && (l.drop (i + 1)).all p) := by rw [Ad2 hx, List.all_cons]
theorem Br4 (a b : C5) : touches a b = a.Writes.any fun w => hasK b.Writes w.Key || b.Got.any fun g => g.Key == w.Key := by
  unfold touches overlap
  congr 1; funext w; congr 1
  unfold hasS
  rw [List.any_map]
  congr 1; funext g
  show (w.Key == g.Key) = (g.Key == w.Key)
  rw [Bool.eq_iff_iff, beq_iff_eq, beq_iff_eq]; exact eq_comm
theorem kcomm (a b : Str) : (a == b) = (b == a) := by rw [Bool.eq_iff_iff, beq_iff_eq, beq_iff_eq]; exact eq_comm
theorem AF1 {d : C5} (h : d.size ≤ 1048576) : sizeL G4.size d.Got ≤ 1048576 ∧ sizeL A9.size d.Writes ≤ 1048576 ∧ d.Got.length ≤ 1048576 ∧ d.Writes.length ≤ 1048576 := by
  have h1 := L7 (f := G4.size) (l := d.Got)
  have h2 := L7 (f := A9.size) (l := d.Writes)
  unfold C5.size at h
  omega
theorem Bk2 {l : List G4} {i : Nat} {x : G4} (hx : l[i]? = some x) : x.Key.length ≤ sizeL G4.size l ∧ x.Val.length ≤ sizeL G4.size l := by
  have h := X1 (f := G4.size) hx
  have h2 : x.size = x.Key.length + x.Val.length := rfl
  omega
end Go.M
namespace Go.Proofs.YtcfkbhnpfjjmjaaGreat
open Go Go.AV Go.M
attribute [local irreducible] OpW OpA OpS AWP B9 J5 C8 OpE RetOk H1 I9 Le Ev F6 J9
theorem Br5 (n : Int) : B9 Tryz.prog 63 [AV.int n] (AV.bool (isTxn n)) := by
  refine B7 Tryz.func63 rfl Tryz.ntmps63 rfl ?_
  refine R7 ?_
  refine A4 rfl (B2 rfl Tryz.call25 rfl (u5 _ _ _) (A1 (A0 rfl) (A1 D8 (A1 D8 A7)))) ?_
  refine R3 ?_
  exact D5 rfl (A6 rfl U6)
theorem BX1 (l : List Int) (n : Int) : B9 Tryz.prog 58 [ints l, AV.int n] (AV.bool (l.any fun y => n == y)) := by
 refine B7 Tryz.func58 rfl Tryz.ntmps58 rfl ?_
 refine S0 (t := 0) rfl fun hl => ?_
 try simp only [A5] at hl
 refine R12 ?_
 refine E5 [(1, _), (7, _), (8, _)] _ (fun (i : Nat) => i ≤ l.length ∧ (l.any fun y => n == y) = ((l.drop i).any fun y => n == y)) (fun (i : Nat) => []) (fun (i : Nat) => [(9, AV.int i)]) (fun (i : Nat) => l.length - i) (0) ?_ (F2 ⟨rfl, rfl, rfl, rfl, trivial⟩) ?_
 ·exact ⟨Nat.zero_le _, rfl⟩
 intro i hinv
 refine R5 ?_
 refine A8 (A0 rfl) ?_ ?_
 ·intro h10
  have k10 := of_decide_eq_true h10; try simp only [A5] at k10
  have hlt : i < l.length := by omega
  obtain ⟨x, hx⟩ := get_some hlt
  refine R5 ?_
  refine A4 rfl (C7 rfl B3 B4 (A0 rfl) (A0 rfl) hx qz4) ?_
  refine R9 ?_
  refine A8 (A0 rfl) ?_ ?_
  ·intro h15
   have k15 := D2 h15; try simp only [A5] at k15
   refine R5 ?_
   exact D5 rfl (A6 rfl qz167)
  intro h15
  have k15 := D6 h15; try simp only [A5] at k15
  refine R5 ?_
  refine F3 i (i + 1) ?_ ?_ (F2 ⟨rfl, rfl, rfl, rfl, trivial⟩)
  ·exact ⟨by omega, by rw [hinv.2, Ad2 hx, List.any_cons, show (n == x) = false from by simpa using Ne.symm k15]; rfl⟩
  omega
 intro h10
 have k10 := of_decide_eq_false h10; try simp only [A5] at k10
 have hge : l.length ≤ i := by omega
 refine R6 ?_
 exact D5 rfl (A6 rfl qz167)
theorem Bk3 (g h : G4) : B9 Tryz.prog 95 [AV.agg h.cs, AV.eptr g.cs] (AV.bool (h.Key == g.Key)) := by
  refine B7 Tryz.func95 rfl Tryz.ntmps95 rfl ?_
  refine R3 ?_
  intro b2
  refine R12 ?_
  exact D5 rfl (A6 rfl U6)
theorem Br6 (l : List G4) (hs : sizeL G4.size l ≤ 4194304) : B9 Tryz.prog 65 [AV.list 3 (l.map G4.cs)] (AV.bool (AC1 l)) := by
 have hl := L7 (f := G4.size) (l := l)
 refine B7 Tryz.func65 rfl Tryz.ntmps65 rfl ?_
 refine R12 ?_
 refine E5 [(0, _), (5, _), (6, _)] _ (fun (i : Nat) => i ≤ l.length ∧ AB6 [] l = AB6 (l.take i) (l.drop i)) (fun (i : Nat) => []) (fun (i : Nat) => [(7, AV.int i)]) (fun (i : Nat) => l.length - i) (0) ?_ (I8 B0 ⟨rfl, rfl, rfl, rfl, trivial⟩) ?_
 ·exact ⟨Nat.zero_le _, rfl⟩
 intro i hinv
 refine R5 ?_
 refine A8 (A0 rfl) ?_ ?_
 ·intro h8
  have k8 := of_decide_eq_true h8; try simp only [A5] at k8
  have hlt : i < l.length := by (simpa using h8)
  obtain ⟨x, hx⟩ := get_some hlt
  have hxs := Bk2 hx
  have hgs := BX0 hx
  refine R6 ?_
  refine A4 rfl (C7 rfl J6 O5 (A0 rfl) (A0 rfl) hx qz4) ?_
  refine R2 ?_
  intro b4
  refine R7 ?_
  refine A4 rfl (B2 rfl Tryz.call93 rfl (As9 _ qz8) (A1 (A0 rfl) A7)) ?_
  refine R7 ?_
  refine P4 rfl (fun hc => B2 rfl Tryz.call94 rfl (Ao6 _ _ qz8) (A1 (B1 rfl hc) (A1 (B1 rfl hc) A7))) ?_
  refine R5 ?_
  refine P4 rfl (fun hc => j0 rfl J6 O5 (B1 rfl hc) (B1 rfl hc) qz6 qz6) ?_
  refine P4 rfl (fun hc => Bd8 rfl rfl (A1 (A0 rfl) A7)) ?_
  refine P4 rfl (fun hc => AG1 rfl Tryz.call86 rfl (AO0 (l.take i) (fun _ => True) (fun h => h.Key == x.Key) (fun _ _ => trivial)) (W9 _) (T2 (evb (B1 rfl hc)) (T2 (AV9 (BC6 0 (B1 rfl hc) rfl) (Aj9 Tryz.call95 (fun g (_ : True) => Bk3 _ g))) i0))) ?_
  refine R2 ?_
  refine A8 (A0 rfl) ?_ ?_
  ·intro h31
   have hn : (Ae1 x && !((l.take i).any fun h => h.Key == x.Key)) = false := qz142
   have he : AC1 l = false := (by unfold AC1; rw [hinv.2, hgs, hn]; rfl)
   rw [he]
   refine R5 ?_
   exact D5 rfl (A6 rfl qz85)
  intro h31
  have hy : (Ae1 x && !((l.take i).any fun h => h.Key == x.Key)) = true := qz142
  refine R5 ?_
  refine F3 i (i + 1) ?_ ?_ (Le.trans (C1 [0] rfl) (E3 1 B0 ⟨rfl, rfl, rfl, rfl, trivial⟩))
  ·exact ⟨by omega, by rw [hinv.2, hgs, hy, Bool.true_and]⟩
  omega
 intro h8
 have k8 := of_decide_eq_false h8; try simp only [A5] at k8
 have hge : l.length ≤ i := by (simpa using h8)
 have hfin := hinv.2
 rw [Bk0 hge] at hfin
 refine R9 ?_
 exact D5 rfl (A6 rfl qz85)
theorem Br7 (l : List G4) (hs : sizeL G4.size l ≤ 4194304) : B9 Tryz.prog 68 [AV.list 3 (l.map G4.cs)] (AV.bool (AC1 l)) := by
 have hl := L7 (f := G4.size) (l := l)
 refine B7 Tryz.func68 rfl Tryz.ntmps68 rfl ?_
 refine R12 ?_
 refine E5 [(0, _), (7, _), (8, _)] _ (fun (i : Nat) => i ≤ l.length ∧ AB6 [] l = AB6 (l.take i) (l.drop i)) (fun (i : Nat) => []) (fun (i : Nat) => [(9, AV.int i)]) (fun (i : Nat) => l.length - i) (0) ?_ (I8 B0 ⟨rfl, rfl, rfl, rfl, trivial⟩) ?_
 ·exact ⟨Nat.zero_le _, rfl⟩
 intro i hinv
 refine R5 ?_
 refine A8 (A0 rfl) ?_ ?_
 ·intro h10
  have k10 := of_decide_eq_true h10; try simp only [A5] at k10
  have hlt : i < l.length := by (simpa using h10)
  obtain ⟨x, hx⟩ := get_some hlt
  have hxs := Bk2 hx
  have hgs := BX0 hx
  have hi0 := hinv.2
  refine R6 ?_
  refine A4 rfl (C7 rfl J6 O5 (A0 rfl) (A0 rfl) hx qz4) ?_
  refine R2 ?_
  intro b4
  refine R8 ?_
  refine A4 rfl (B2 rfl Tryz.call99 rfl (AA9 _ qz8) (A1 (A0 rfl) A7)) ?_
  refine R4 ?_
  refine P4 rfl (fun hc => B2 rfl Tryz.call100 rfl (AW3 _ qz8) (A1 (B1 rfl hc) A7)) ?_
  refine R9 ?_
  refine f5 rfl rfl (V1 rfl rfl rfl) (fun hc => Be8 rfl (B1 rfl hc) (L4 (l := []) rfl)) ?_
  refine R3 ?_
  refine A8 (A0 rfl) ?_ ?_
  ·intro h33
   have hn : Ae1 x = false := qz150
   have he : AC1 l = false := (by unfold AC1; rw [hinv.2, hgs, hn]; rfl)
   rw [he]
   refine R5 ?_
   exact D5 rfl (A6 rfl qz85)
  intro h33
  have hy : Ae1 x = true := qz150
  refine R5 ?_
  refine A4 rfl (j0 rfl J6 O5 (A0 rfl) (A0 rfl) qz4 qz4) ?_
  refine R4 ?_
  refine E5 [(0, _), (3, _), (4, _), (7, _), (8, _), (9, _), (10, _), (11, _), (12, _), (13, _), (14, _), (15, _), (16, _), (17, _), (18, _), (23, _), (24, _), (33, _), (34, _), (35, _), (36, _), (37, _)] _ (fun (j : Nat) => j ≤ (l.take i).length ∧ ((l.take i).any fun h => h.Key == x.Key) = (((l.take i).drop j).any fun h => h.Key == x.Key)) (fun (j : Nat) => []) (fun (j : Nat) => [(38, AV.int j)]) (fun (j : Nat) => (l.take i).length - j) (0) ?_ (I8 B0 ⟨rfl, rfl, rfl, rfl, rfl, rfl, rfl, rfl, rfl, rfl, rfl, rfl, rfl, rfl, rfl, rfl, rfl, rfl, rfl, rfl, rfl, rfl, rfl, trivial⟩) ?_
  ·exact ⟨Nat.zero_le _, rfl⟩
  intro j hinv
  refine R5 ?_
  refine A8 (A0 rfl) ?_ ?_
  ·intro h39
   have k39 := of_decide_eq_true h39; try simp only [A5] at k39
   have hlt1 : j < (l.take i).length := by (simpa using h39)
   obtain ⟨z, hz⟩ := get_some hlt1
   refine R5 ?_
   refine A4 rfl (C7 rfl J6 O5 (A0 rfl) (A0 rfl) hz qz4) ?_
   refine R2 ?_
   intro b6
   refine R10 ?_
   refine A8 (A0 rfl) ?_ ?_
   ·intro h46
    have he : AC1 l = false := (by unfold AC1; rw [hi0, hgs, hinv.2, AF0 hz, kcomm z.Key, h46, Bool.true_or, Bool.not_true, Bool.and_false]; rfl)
    rw [he]
    refine R5 ?_
    exact D5 rfl (A6 rfl qz85)
   intro h46
   refine R5 ?_
   refine F3 j (j + 1) ?_ ?_ (Le.trans (C1 [0] rfl) (E3 1 B0 ⟨rfl, rfl, rfl, rfl, rfl, rfl, rfl, rfl, rfl, rfl, rfl, rfl, rfl, rfl, rfl, rfl, rfl, rfl, rfl, rfl, rfl, rfl, rfl, trivial⟩))
   ·exact ⟨by omega, by rw [hinv.2, AF0 hz, kcomm z.Key, h46]; rfl⟩
   omega
  intro h39
  have k39 := of_decide_eq_false h39; try simp only [A5] at k39
  have hge1 : (l.take i).length ≤ j := by (simpa using h39)
  have hj3 : ((l.take i).any fun h => h.Key == x.Key) = false := qz182
  refine R5 ?_
  refine F3 i (i + 1) ?_ ?_ (Le.trans (C1 [0] rfl) (E3 1 B0 ⟨rfl, rfl, rfl, rfl, trivial⟩))
  ·exact ⟨by omega, by rw [hi0, hgs, hy, hj3]; rfl⟩
  omega
 intro h10
 have k10 := of_decide_eq_false h10; try simp only [A5] at k10
 have hge : l.length ≤ i := by (simpa using h10)
 have hfin := hinv.2
 rw [Bk0 hge] at hfin
 refine R9 ?_
 exact D5 rfl (A6 rfl qz85)
theorem Af6 (d : C5) (hs : d.size ≤ 1048576) : B9 Tryz.prog 41 [AV.agg d.cs] (AV.bool (W5 d)) := by
  obtain ⟨hs1, hs2, hs3, hs4⟩ := AF1 hs
  refine B7 Tryz.func41 rfl Tryz.ntmps41 rfl ?_
  refine R3 ?_
  intro b1
  refine R6 ?_
  refine A4 rfl (B2 rfl Tryz.call63 rfl (Br5 _) (A1 (A0 rfl) A7)) ?_
  refine R3 ?_
  refine L3 rfl (fun hc => B2 rfl Tryz.call25 rfl (u5 _ _ _) (A1 (B1 rfl hc) (A1 D8 (A1 D8 A7)))) ?_
  refine R10 ?_
  refine f5 rfl rfl (Aj3 rfl rfl rfl) (fun hc => Ag0 rfl (B1 rfl hc) D8 (by have hc2 := hc; simp [within] at hc2; omega)) ?_
  refine f5 rfl rfl (Aj3 rfl rfl rfl) (fun hc => B2 rfl Tryz.call25 rfl (u5 _ _ _) (A1 (B1 rfl hc) (A1 (B1 rfl hc) (A1 D8 A7)))) ?_
  refine R20 ?_
  refine L3 rfl (fun hc => B2 rfl Tryz.call64 rfl (Bp3 _) (A1 (B1 rfl hc) A7)) ?_
  refine R4 ?_
  refine L3 rfl (fun hc => B2 rfl Tryz.call65 rfl (Br6 _ T0) (A1 (B1 rfl hc) A7)) ?_
  refine R4 ?_
  refine L3 rfl (fun hc => B2 rfl Tryz.call66 rfl (BI8 _ T0) (A1 (B1 rfl hc) A7)) ?_
  refine R4 ?_
  exact D5 rfl (A6 rfl (by exact congrArg AV.bool (by unfold W5; simp only [A5])))
theorem Aa2 (d : C5) (hs : d.size ≤ 1048576) : B9 Tryz.prog 42 [AV.agg d.cs] (AV.bool (W5 d)) := by
 obtain ⟨hs1, hs2, hs3, hs4⟩ := AF1 hs
 have hw : within d.End (d.Begin + 1) 1000000 = (decide (d.End > d.Begin) && decide (d.End ≤ 1000000)) := by unfold within; congr 1
 refine B7 Tryz.func42 rfl Tryz.ntmps42 rfl ?_
 refine R3 ?_
 intro b1
 refine R19 ?_
 refine A8 (A0 rfl) ?_ ?_
 ·intro h15
  simp only [A5] at h15
  have hq : (!d.Look || (d.Yes && ((d.Writes.length : Int) == 0))) = false := (by cases h1 : d.Look <;> cases h2 : d.Yes <;> simp_all <;> (first | omega | (intro e; rw [e] at h15; simp at h15)))
  have he : W5 d = false := (by unfold W5; simp only [hq, Bool.and_false, Bool.false_and])
  rw [he]
  refine R5 ?_
  exact D5 rfl (A6 rfl qz173)
 intro h15
 simp only [A5] at h15
 have hq : (!d.Look || (d.Yes && ((d.Writes.length : Int) == 0))) = true := (by cases h1 : d.Look <;> cases h2 : d.Yes <;> simp_all; try omega)
 refine R5 ?_
 refine A4 rfl (B2 rfl Tryz.call30 rfl (N5 _ _ _) (A1 (A0 rfl) (A1 D8 (A1 D8 A7)))) ?_
 refine R3 ?_
 refine L3 rfl (fun hc => B2 rfl Tryz.call30 rfl (N5 _ _ _) (A1 (B1 rfl hc) (A1 D8 (A1 D8 A7)))) ?_
 refine R21 ?_
 refine L3 rfl (fun hc => B2 rfl Tryz.call67 rfl (Af4 _) (A1 (B1 rfl hc) A7)) ?_
 refine R4 ?_
 refine L3 rfl (fun hc => B2 rfl Tryz.call68 rfl (Br7 _ T0) (A1 (B1 rfl hc) A7)) ?_
 refine R4 ?_
 refine L3 rfl (fun hc => B2 rfl Tryz.call69 rfl (AU9 _ T0) (A1 (B1 rfl hc) A7)) ?_
 refine R4 ?_
 exact D5 rfl (A6 rfl qz173)
theorem AO2 (a b : C5) : B9 Tryz.prog 27 [AV.agg a.cs, AV.agg b.cs] (AV.bool (Go.M.ahead a b)) := by
  refine B7 Tryz.func27 rfl Tryz.ntmps27 rfl ?_
  refine R3 ?_
  intro b2
  refine R1 ?_
  intro b3
  refine R17 ?_
  exact D5 rfl (A6 rfl B0)
end Go.Proofs.YtcfkbhnpfjjmjaaGreat
namespace Go.Proofs.YtcfkbhnpfjjmjaaGreat
open Go Go.AV Go.M
attribute [local irreducible] OpW OpA OpS AWP B9 J5 C8 OpE RetOk H1 I9 Le Ev F6 J9 Int.tmod Int.tdiv IntKind.wrap
theorem BQ3 (x y : I0) : B9 Tryz.prog 254 [AV.agg x.cs, AV.agg y.cs] (AV.bool (AU6 x y)) := by
  refine B7 Tryz.func254 rfl Tryz.ntmps254 rfl ?_
  refine R3 ?_
  intro b2
  refine R1 ?_
  intro b3
  refine R27 ?_
  exact D5 rfl (A6 rfl U6)
theorem CJ1 (l : List Int) (n : Int) : (putI l n).length ≤ l.length + 1 := by
  induction l with
  | nil => simp [putI]
  | cons y l ih =>
    unfold putI
    split
    · rw [H6, H6]; omega
    · split <;> simp
theorem Bk4 {l : List I0} {x y : I0} {i : Nat} (hy : l[i]? = some y) : waitsS (l.take (i + 1)) x = if AU6 x y = true then putI (waitsS (l.take i) x) y.Txn else waitsS (l.take i) x := by
  unfold waitsS
  rw [List.take_add_one, hy, List.filter_append, List.foldl_append]
  cases h : AU6 x y <;> simp [h]
theorem Bk5 (l : List I0) (a : List Int) : (l.foldl (fun a y => putI a y.Txn) a).length ≤ a.length + l.length := by
  induction l generalizing a with
  | nil => simp
  | cons y l ih => rw [List.foldl_cons]; have := ih (putI a y.Txn); have := CJ1 a y.Txn; rw [H6]; omega
theorem BA6 (l : List I0) (x : I0) : (waitsS l x).length ≤ l.length := by
  unfold waitsS
  have h1 := Bk5 (l.filter (AU6 x)) []
  have h2 := List.length_filter_le (AU6 x) l
  rw [N1] at h1; omega
theorem BJ8 {n : Int} : ∀ {l : List Int} {i : Nat}, (∀ j x, j < i → l[j]? = some x → x < n) → i ≤ l.length → (∀ x, l[i]? = some x → ¬ x < n) →
    (∀ x, l[i]? = some x → x = n → putI l n = l) ∧ ((∀ x, l[i]? = some x → x ≠ n) → putI l n = l.take i ++ n :: l.drop i)
  | [], i, _, hi, _ => by simp at hi; subst hi; exact ⟨fun x hx => by simp at hx, fun _ => rfl⟩
  | y :: l, 0, _, _, h2 => by
    have h := h2 y rfl
    unfold putI
    rw [if_neg h]
    refine ⟨fun x hx hn => ?_, fun hn => ?_⟩
    · simp at hx; subst hx; rw [if_pos hn]
    · rw [if_neg (hn y rfl)]; rfl
  | y :: l, i + 1, h1, hi, h2 => by
    have hy := h1 0 y qz8 rfl
    obtain ⟨k1, k2⟩ := BJ8 (n := n) (l := l) (i := i) (fun j x hj hx => h1 (j + 1) x qz8 AA5) (by simpa using hi) (fun x hx => h2 x AA5)
    unfold putI
    rw [if_pos hy]
    refine ⟨fun x hx hn => by rw [k1 x AA5 hn], fun hn => by rw [k2 fun x hx => hn x AA5]; rfl⟩
theorem CB8 (l : List Int) (n : Int) (hl : l.length ≤ 4194303) : B9 Tryz.prog 169 [ints l, AV.int n] (ints (putI l n)) := by
 refine B7 Tryz.func169 rfl Tryz.ntmps169 rfl ?_
 refine R2 ?_
 refine A4 rfl (D4 rfl (P8 (sz := 1))) ?_
 refine R7 ?_
 refine E5 [(0, _), (1, _), (4, _)] _ (fun (i : Nat) => i ≤ l.length ∧ ∀ j x, j < i → l[j]? = some x → x < n) (fun (i : Nat) => []) (fun (i : Nat) => [(5, AV.int i)]) (fun (i : Nat) => l.length - i) (0) ?_ (F2 ⟨rfl, rfl, rfl, rfl, trivial⟩) ?_
 ·exact ⟨Nat.zero_le _, fun j x h => by omega⟩
 intro i hinv
 obtain ⟨x, hx⟩ := AL6 l i
 have hx0 : i < l.length → l[i]? = some x := hx
 refine R10 ?_
 refine L3 rfl (fun hc => C7 rfl B3 B4 (B1 rfl hc) (B1 rfl hc) (hx qz6) qz6) ?_
 refine R5 ?_
 refine A8 (A0 rfl) ?_ ?_
 ·intro h18
  have hb : i < l.length ∧ x < n := by simpa using h18
  refine R7 ?_
  refine AD6 ?_
  refine F3 i (i + 1) ?_ ?_ (F2 ⟨rfl, rfl, rfl, rfl, trivial⟩)
  ·exact ⟨by omega, fun j y hj hy => (Nat.lt_or_ge j i).elim (fun h => hinv.2 j y h hy) (fun h => by (obtain rfl : j = i := by omega); rw [hx0 hb.1] at hy; injection hy with hy; omega)⟩
  omega
 intro h18
 have hb : i < l.length → ¬ x < n := fun h => by simpa [h] using h18
 obtain ⟨hs1, hs2⟩ := BJ8 hinv.2 hinv.1 (fun z hz => by (have hzl := (List.getElem?_eq_some_iff.1 hz).1; rw [hx0 hzl] at hz; injection hz with hz; subst hz; exact hb hzl))
 refine R11 ?_
 refine L3 rfl (fun hc => C7 rfl B3 B4 (B1 rfl hc) (B1 rfl hc) (hx qz6) qz6) ?_
 refine R5 ?_
 refine A8 (A0 rfl) ?_ ?_
 ·intro h32
  have hc : i < l.length ∧ x = n := by simpa using h32
  have he := hs1 x (hx0 hc.1) hc.2
  rw [he]
  refine R6 ?_
  exact D5 rfl (A6 rfl qz75)
 intro h32
 have hc : i < l.length → x ≠ n := fun h => by simpa [h] using h32
 have he := hs2 (fun z hz => by (have hzl := (List.getElem?_eq_some_iff.1 hz).1; rw [hx0 hzl] at hz; injection hz with hz; subst hz; exact hc hzl))
 rw [he]
 refine R3 ?_
 refine N8 rfl rfl rfl rfl B3 B4 ?_
 intro v34
 refine R2 ?_
 refine A4 rfl (j0 rfl B3 B4 (A0 rfl) (A0 rfl) qz4 qz4) ?_
 refine G0 (by' := 8) 0 rfl rfl rfl rfl B3 Tryz.type3 rfl rfl rfl rfl rfl rfl (A0 rfl) (A0 rfl) rfl (by simp only [A5, H2, N1]; omega) ?_
 intro v38_1
 refine R7 ?_
 refine G0 (by' := 8) 0 rfl rfl rfl rfl B3 Tryz.type3 rfl rfl rfl rfl rfl rfl (A0 rfl) (A0 rfl) rfl Aq1 ?_
 intro v42_2
 refine R7 ?_
 refine A4 rfl (AL4 rfl B3 B4 (A0 rfl) (A0 rfl) qz4 qz4) ?_
 refine G0 (by' := 8) 0 rfl rfl rfl rfl B3 Tryz.type3 rfl rfl rfl rfl rfl rfl (A0 rfl) (A0 rfl) rfl Aq1 ?_
 intro v47_3
 refine R3 ?_
 refine AP6 0 4 rfl rfl ?_
 exact D5 rfl (A6 rfl qz75)
theorem Bk6 (l : List I0) (x : I0) (hl : l.length ≤ 4194303) : B9 Tryz.prog 252 [AV.list 3 (l.map I0.cs), AV.agg x.cs] (ints (waitsS l x)) := by
 refine B7 Tryz.func252 rfl Tryz.ntmps252 rfl ?_
 refine R3 ?_
 intro b3
 refine A4 rfl (D4 rfl (P8 (sz := 1))) ?_
 refine R3 ?_
 refine A4 rfl (D4 rfl (P8 (sz := 1))) ?_
 refine R9 ?_
 refine E5 [(3, _), (4, _), (8, _), (9, _)] _ (fun (i : Nat) => i ≤ l.length) (fun (i : Nat) => []) (fun (i : Nat) => [(5, ints (waitsS (l.take i) x)), (10, AV.int i)]) (fun (i : Nat) => l.length - i) (0) ?_ (F2 ⟨rfl, rfl, rfl, rfl, rfl, rfl, trivial⟩) ?_
 ·exact Nat.zero_le _
 intro i hinv
 refine R5 ?_
 refine A8 (A0 rfl) ?_ ?_
 ·intro h11
  have k11 := of_decide_eq_true h11; try simp only [A5] at k11
  have hlt : i < l.length := by omega
  obtain ⟨y, hy⟩ := get_some hlt
  have hwt := Bk4 (x := x) hy
  have hwl := BA6 (l.take i) x
  rw [H2] at hwl
  refine R5 ?_
  refine A4 rfl (C7 rfl U7 j4 (A0 rfl) (A0 rfl) hy qz4) ?_
  refine R2 ?_
  intro b7
  refine R6 ?_
  refine A4 rfl (B2 rfl Tryz.call254 rfl (BQ3 _ _) (A1 (A0 rfl) (A1 (A0 rfl) A7))) ?_
  refine R1 ?_
  refine A8 (A0 rfl) ?_ ?_
  ·intro h16
   have hout : putI (waitsS (l.take i) x) y.Txn = waitsS (l.take (i + 1)) x := by rw [hwt, if_pos h16]
   refine R4 ?_
   refine A4 rfl (B2 rfl Tryz.call169 rfl (CB8 _ _ T0) (A1 (A0 rfl) (A1 (A0 rfl) A7))) ?_
   refine R6 ?_
   refine F3 i (i + 1) ?_ ?_ (O3 1 ⟨congrArg (fun z => some (ints z)) hout, rfl, rfl, rfl, rfl, rfl, trivial⟩)
   ·omega
   omega
  intro h16
  have hout : waitsS (l.take i) x = waitsS (l.take (i + 1)) x := by rw [hwt, if_neg (by rw [h16]; decide)]
  refine R5 ?_
  refine F3 i (i + 1) ?_ ?_ (O3 1 ⟨congrArg (fun z => some (ints z)) hout, rfl, rfl, rfl, rfl, rfl, trivial⟩)
  ·omega
  omega
 intro h11
 have k11 := of_decide_eq_false h11; try simp only [A5] at k11
 have hge : l.length ≤ i := by omega
 rw [List.take_of_length_le hge]
 refine R7 ?_
 exact D5 rfl (A6 rfl B0)
theorem Bk7 (l : List I0) (fixed : List Int) (x : I0) (hl : l.length ≤ 4194303) : B9 Tryz.prog 246 [AV.list 3 (l.map I0.cs), ints fixed, AV.agg x.cs] (AV.tup [AV.int (AP0 l fixed x (waitsS l x)).1, ints (AP0 l fixed x (waitsS l x)).2]) := by
 obtain ⟨w, hw⟩ : ∃ w, waitsS l x = w := ⟨_, rfl⟩
 have hwl := BA6 l x
 rw [hw] at hwl
 refine B7 Tryz.func246 rfl Tryz.ntmps246 rfl ?_
 refine R3 ?_
 intro b5
 refine R1 ?_
 refine A4 rfl (D4 rfl (P8 (sz := 1))) ?_
 refine R5 ?_
 refine A4 rfl (B2 rfl Tryz.call252 rfl (Bk6 _ _ T0) (A1 (A0 rfl) (A1 (A0 rfl) A7))) ?_
 refine R4 ?_
 rw [hw]
 refine R5 ?_
 refine A8 (A0 rfl) ?_ ?_
 ·intro h16
  have k16 := D2 h16; try simp only [A5] at k16
  have he : AP0 l fixed x w = (1, []) := by (unfold AP0; rw [if_pos qz8])
  rw [he]
  refine R3 ?_
  refine A4 rfl (D4 rfl (P8 (sz := 1))) ?_
  refine R2 ?_
  exact W6 rfl D0 (B6 (A6 rfl B0) (B6 (A6 rfl B0) E8))
 intro h16
 have k16 := D6 h16; try simp only [A5] at k16
 refine R9 ?_
 refine E5 [(1, _), (5, _), (8, _), (17, _), (18, _)] _ (fun (i : Nat) => i ≤ w.length ∧ (w.any fun t => decide (t < x.Txn) || fixed.any fun y => t == y) = ((w.drop i).any fun t => decide (t < x.Txn) || fixed.any fun y => t == y)) (fun (i : Nat) => []) (fun (i : Nat) => [(19, AV.int i)]) (fun (i : Nat) => w.length - i) (0) ?_ (F2 ⟨rfl, rfl, rfl, rfl, rfl, rfl, trivial⟩) ?_
 ·exact ⟨Nat.zero_le _, rfl⟩
 intro i hinv
 refine R5 ?_
 refine A8 (A0 rfl) ?_ ?_
 ·intro h20
  have k20 := of_decide_eq_true h20; try simp only [A5] at k20
  have hlt : i < w.length := by omega
  obtain ⟨y, hx⟩ := get_some hlt
  refine R5 ?_
  refine A4 rfl (C7 rfl B3 B4 (A0 rfl) (A0 rfl) hx qz4) ?_
  refine R12 ?_
  refine P4 rfl (fun hc => B2 rfl Tryz.call58 rfl (BX1 _ _) (A1 (B1 rfl hc) (A1 (B1 rfl hc) A7))) ?_
  refine R2 ?_
  refine A8 (A0 rfl) ?_ ?_
  ·intro h31
   have hany : (w.any fun t => decide (t < x.Txn) || fixed.any fun y => t == y) = true := by (rw [hinv.2, drop_some hx, List.any_cons, h31]; rfl)
   have he : AP0 l fixed x w = (2, []) := by (unfold AP0; rw [if_neg qz8, if_pos hany])
   rw [he]
   refine R3 ?_
   refine A4 rfl (D4 rfl (P8 (sz := 1))) ?_
   refine R2 ?_
   exact W6 rfl D0 (B6 (A6 rfl B0) (B6 (A6 rfl B0) E8))
  intro h31
  refine R5 ?_
  refine F3 i (i + 1) ?_ ?_ (F2 ⟨rfl, rfl, rfl, rfl, rfl, rfl, trivial⟩)
  ·exact ⟨by omega, by rw [hinv.2, drop_some hx, List.any_cons, h31]; rfl⟩
  omega
 intro h20
 have k20 := of_decide_eq_false h20; try simp only [A5] at k20
 have hge : w.length ≤ i := by omega
 have hany : (w.any fun t => decide (t < x.Txn) || fixed.any fun y => t == y) = false := by (rw [hinv.2, List.drop_eq_nil_of_le hge]; rfl)
 have he : AP0 l fixed x w = (3, w) := by (unfold AP0; rw [if_neg qz8, if_neg (by rw [hany]; decide)])
 rw [he]
 refine R8 ?_
 exact W6 rfl D0 (B6 (A6 rfl B0) (B6 (A6 rfl B0) E8))
theorem BJ9 {α β : Type} {c : α → β} : ∀ {l : List α} {k : Nat} {y : α}, l[k]? = some y → l.map c = (l.take k).map c ++ c y :: (l.drop (k + 1)).map c
  | [], k, y, h => by simp at h
  | x :: l, 0, y, h => by simp at h; subst h; rfl
  | x :: l, k + 1, y, h => by
    rw [List.map_cons, BJ9 (c := c) (l := l) (k := k) (y := y) w4]; rfl
theorem map_len9 {α β : Type} {c : α → β} {l : List α} {k : Nat} {y : α} (h : l[k]? = some y) : ((l.take k).map c).length = k := by
  have := (List.getElem?_eq_some_iff.1 h).1
  rw [A5, H2]; omega
theorem BA7 {l : List I0} {x : I0} {i : Nat} (h : takeL l x = l.take i ++ takeL (l.drop i) x) {y : I0} (hy : l[i]? = some y) :
    (((y.Key == x.Key) && (y.Txn == x.Txn)) = true → takeL l x = l.take i ++ ⟨y.Key, y.Txn, y.Write || x.Write⟩ :: l.drop (i + 1)) ∧ (((y.Key == x.Key) && (y.Txn == x.Txn)) = false → takeL l x = l.take (i + 1) ++ takeL (l.drop (i + 1)) x) := by
  rw [drop_some hy] at h
  constructor
  · intro hc
    rw [h]; unfold takeL; rw [hc, if_pos rfl]
  · intro hc
    rw [h, List.take_add_one, hy]; rw [takeL, hc, if_neg D0]; simp
theorem Bb4 (l : List I0) (x : I0) (hl : l.length ≤ 4194303) : B9 Tryz.prog 247 [AV.list 3 (l.map I0.cs), AV.agg x.cs] (AV.list 3 ((takeL l x).map I0.cs)) := by
 refine B7 Tryz.func247 rfl Tryz.ntmps247 rfl ?_
 refine R3 ?_
 intro b3
 refine A4 rfl (D4 rfl (P8 (sz := 3))) ?_
 refine R3 ?_
 refine N8 rfl rfl rfl rfl U7 j4 ?_
 intro v8
 refine R1 ?_
 refine G0 (by' := 32) 0 rfl rfl rfl rfl U7 Tryz.type277 rfl rfl rfl rfl rfl rfl (A0 rfl) (A0 rfl) rfl qz4 ?_
 intro v10_1
 refine R10 ?_
 refine I5 (congrArg (fun z => Own.arr v10_1 277 3 z :: _) (List.nil_append _)) ?_
 refine E5 [(3, _), (5, _), (11, _), (12, _)] _ (fun (i : Nat) => i ≤ l.length ∧ takeL l x = l.take i ++ takeL (l.drop i) x) (fun (i : Nat) => []) (fun (i : Nat) => [(13, AV.int i)]) (fun (i : Nat) => l.length - i) (0) ?_ (F2 ⟨rfl, rfl, rfl, rfl, rfl, trivial⟩) ?_
 ·exact ⟨Nat.zero_le _, rfl⟩
 intro i hinv
 refine R5 ?_
 refine A8 (A0 rfl) ?_ ?_
 ·intro h14
  have k14 := of_decide_eq_true h14; try simp only [A5] at k14
  have hlt : i < l.length := by (simp only [G2, N1, A5, P0] at k14; omega)
  obtain ⟨y, hy⟩ := get_some hlt
  refine R6 ?_
  refine A4 rfl (D7 0 rfl U7 j4 (A0 rfl) rfl (A0 rfl) qz8 qz170) ?_
  refine A4 rfl (X5 0 rfl (A0 rfl) rfl Tryz.isAgg277 j4 (by rw [Int.toNat_natCast, List.getElem?_map, hy]; rfl) D0) ?_
  refine R1 ?_
  intro b7
  refine R18 ?_
  refine A8 (A0 rfl) ?_ ?_
  ·intro h29
   have he := (BA7 hinv.2 hy).1 h29
   have hA := map_len9 (c := I0.cs) hy
   rw [he, List.map_append, List.map_cons]
   refine I5 (congrArg (fun z => _ :: Own.arr v10_1 277 3 z :: _) (BJ9 hy)) ?_
   refine R10 ?_
   refine A4 rfl (D7 1 rfl U7 j4 (A0 rfl) rfl (A0 rfl) qz8 qz170) ?_
   refine A4 rfl (J2 1 rfl Tryz.underlying277 rfl O9 (A0 rfl) rfl rfl (AL5 qz4)) ?_
   refine Ak5 1 rfl rfl rfl (A0 rfl) (A0 rfl) (y7 _) rfl O9 qz4 rfl ?_
   refine R7 ?_
   refine AP6 1 4 rfl rfl ?_
   exact D5 rfl (A6 rfl B0)
  intro h29
  refine R5 ?_
  refine F3 i (i + 1) ?_ ?_ (O3 1 ⟨rfl, rfl, rfl, rfl, rfl, trivial⟩)
  ·exact ⟨by omega, (BA7 hinv.2 hy).2 h29⟩
  omega
 intro h14
 have k14 := of_decide_eq_false h14; try simp only [A5] at k14
 have hge : l.length ≤ i := by (simp only [G2, N1, A5, P0] at k14; omega)
 have he : takeL l x = l ++ [x] := by (have := hinv.2; rwa [List.take_of_length_le hge, List.drop_eq_nil_of_le hge] at this)
 rw [he, List.map_append, List.map_cons]
 refine R6 ?_
 refine G0 (by' := 32) 0 rfl rfl rfl rfl U7 Tryz.type277 rfl rfl rfl rfl rfl rfl (A0 rfl) (A0 rfl) rfl (by rw [A5, P0]; omega) ?_
 intro v45_2
 refine R3 ?_
 refine AP6 0 4 rfl rfl ?_
 exact D5 rfl (A6 rfl B0)
def AA0 (l : List I0) (t : Int) (of : Bool) : List I0 := l.filter fun y => ((y.Txn == t) == of)
theorem Br8 {l : List I0} {t : Int} {of : Bool} {i : Nat} {y : I0} (hy : l[i]? = some y) : (AA0 (l.take (i + 1)) t of).map I0.cs = (AA0 (l.take i) t of).map I0.cs ++ (if ((y.Txn == t) == of) = true then [I0.cs y] else []) := by
  unfold AA0
  rw [List.take_add_one, hy, List.filter_append, List.map_append]
  cases h : ((y.Txn == t) == of) <;> simp [h]
theorem CB9 (l : List I0) (t : Int) (of : Bool) : (AA0 l t of).length ≤ l.length := List.length_filter_le _ _
theorem Br9 (l : List I0) (t : Int) (of : Bool) (hl : l.length ≤ 4194303) : B9 Tryz.prog 215 [AV.list 3 (l.map I0.cs), AV.int t, AV.bool of] (AV.list 3 ((AA0 l t of).map I0.cs)) := by
 refine B7 Tryz.func215 rfl Tryz.ntmps215 rfl ?_
 refine R2 ?_
 refine A4 rfl (D4 rfl (P8 (sz := 3))) ?_
 refine R3 ?_
 refine O8 277 3 rfl rfl rfl rfl F4 ?_
 intro v7
 refine R9 ?_
 refine J7 [(1, _), (2, _), (6, _), (10, _), (11, _)] _ (fun (i : Nat) (v : Value) => i ≤ l.length) (fun (i : Nat) (v : Value) => [.arr v 277 3 ((AA0 (l.take i) t of).map I0.cs)]) (fun (i : Nat) (v : Value) => [(7, AV.is v), (12, AV.int i)]) (fun (i : Nat) (v : Value) => l.length - i) (0) (v7) ?_ (I8 B0 ⟨rfl, rfl, rfl, rfl, rfl, rfl, rfl, trivial⟩) ?_
 ·exact Nat.zero_le _
 intro i v hinv
 refine R5 ?_
 refine A8 (A0 rfl) ?_ ?_
 ·intro h13
  have k13 := of_decide_eq_true h13; try simp only [A5] at k13
  have hlt : i < l.length := by omega
  obtain ⟨y, hy⟩ := get_some hlt
  have hst := Br8 (t := t) (of := of) hy
  have hpl := CB9 (l.take i) t of
  rw [H2] at hpl
  refine R5 ?_
  refine A4 rfl (C7 rfl U7 j4 (A0 rfl) (A0 rfl) hy qz4) ?_
  refine R2 ?_
  intro b9
  refine R9 ?_
  refine A4 rfl (Ag1 rfl T4 (A0 rfl) (A0 rfl)) ?_
  refine R1 ?_
  refine A8 (A0 rfl) ?_ ?_
  ·intro h21
   have hout : (AA0 (l.take i) t of).map I0.cs ++ [I0.cs y] = (AA0 (l.take (i + 1)) t of).map I0.cs := by rw [hst, if_pos h21]
   refine R4 ?_
   refine G0 (by' := 32) 1 rfl rfl rfl rfl U7 Tryz.type277 rfl rfl rfl rfl rfl rfl (A0 rfl) (A0 rfl) rfl (by rw [A5, P0]; omega) ?_
   intro v25_1
   refine R6 ?_
   refine G9 i v (i + 1) (v25_1) ?_ ?_ (Le.trans (C1 [0, 0] rfl) (E3 1 (by exact congrArg (fun z => [Own.arr _ 277 3 z]) hout) ⟨rfl, rfl, rfl, rfl, rfl, rfl, rfl, trivial⟩))
   ·omega
   omega
  intro h21
  have hout : (AA0 (l.take i) t of).map I0.cs = (AA0 (l.take (i + 1)) t of).map I0.cs := by rw [hst, if_neg (by rw [h21]; decide), List.append_nil]
  refine R5 ?_
  refine G9 i v (i + 1) (v) ?_ ?_ (Le.trans (C1 [0, 0] rfl) (E3 1 (by exact congrArg (fun z => [Own.arr _ 277 3 z]) hout) ⟨rfl, rfl, rfl, rfl, rfl, rfl, rfl, trivial⟩))
  ·omega
  omega
 intro h13
 have k13 := of_decide_eq_false h13; try simp only [A5] at k13
 have hge : l.length ≤ i := by omega
 rw [List.take_of_length_le hge]
 refine R7 ?_
 refine AP6 0 6 rfl rfl ?_
 exact D5 rfl (A6 rfl B0)
end Go.Proofs.YtcfkbhnpfjjmjaaGreat
namespace Go.Proofs.YtcfkbhnpfjjmjaaGreat
open Go Go.AV Go.M
attribute [local irreducible] OpW OpA OpS AWP B9 J5 C8 OpE RetOk H1 I9 Le Ev F6 J9 V9 Int.tmod Int.tdiv IntKind.wrap bandI
theorem part_ok {l : List I0} (h : s3 l) (t : Int) (of : Bool) : s3 (AA0 l t of) := by
  unfold AA0
  exact ⟨Nat.le_trans (List.length_filter_le _ _) h.1, fun x hx => h.2 x (List.mem_filter.1 hx).1⟩
theorem Ak4 {α : Type} {g : α → AV} : ∀ {v : List α}, (v.map fun l => [g l]).flatten = v.map g
  | [] => rfl
  | x :: v => by rw [List.map_cons, List.flatten_cons, Ak4, List.map_cons]; rfl
theorem flat1 {α : Type} {g : α → AV} {v : List α} {i : Nat} {x : α} (h : v[i]? = some x) : (v.map fun l => [g l]).flatten[((i : Int)).toNat * 1]? = some (g x) := by
  rw [Ak4, Int.toNat_natCast, Nat.mul_one, List.getElem?_map, h]; rfl
def t6 (w : TWorld) (v : List (List I0)) : TWorld := { w with Locks := v }
theorem An4 (b : Nat) (w : TWorld) (X : WX) (T : List (Value × Value)) (L : List Value) (t : Int) (hw : WI w) : C8 Tryz.prog 198 [AV.ptr b 0, AV.int t] (WB b w X T L) (fun v : List (List I0) => v.length = w.Locks.length ∧ ∀ l ∈ v, s3 l) (fun v => WB b (t6 w v) X T L) (fun _ => AV.tup []) := by
 have hng := hw.n
 have hlk := hw.locks
 refine C3 Tryz.func198 rfl Tryz.ntmps198 rfl ?_
 refine R11 ?_
 refine AWP.le (C1 [3] rfl) ?_
 refine J7 [(0, _), (1, _), (10, _)] _ (fun (i : Nat) (v : List (List I0)) => i ≤ w.Locks.length ∧ v.length = w.Locks.length ∧ ∀ l ∈ v, s3 l) (fun (i : Nat) (v : List (List I0)) => [.arr X.lo 203 1 (v.map fun l => [AV.list 3 (l.map I0.cs)])]) (fun (i : Nat) (v : List (List I0)) => [(11, AV.int i)]) (fun (i : Nat) (v : List (List I0)) => w.Locks.length - i) (0) (w.Locks) ?_ (I8 B0 ⟨rfl, rfl, rfl, rfl, trivial⟩) ?_
 ·exact ⟨Nat.zero_le _, rfl, hlk.2⟩
 intro i v hinv
 refine R5 ?_
 refine A8 (A0 rfl) ?_ ?_
 ·intro h12
  have k12 := of_decide_eq_true h12; try simp only [A5] at k12
  have hlt : i < w.Locks.length := (by simpa using h12)
  obtain ⟨l, hlx⟩ := get_some (show i < v.length by rw [hinv.2.1]; exact hlt)
  have hlo := hinv.2.2 l (C6 hlx)
  have hl60 := hlo.1
  refine R8 ?_
  refine L6 17 F1 F1 rfl ?_
  refine R12 ?_
  refine C2 rfl rfl (D7 0 rfl S3 Z0 (A0 rfl) rfl (A0 rfl) qz8 M3) ?_
  refine C2 rfl rfl (Q1 0 rfl (A0 rfl) rfl Tryz.isAgg203 (flat1 (g := fun l => AV.list 3 (l.map I0.cs)) hlx)) ?_
  refine R1 ?_
  refine C2 rfl rfl (B2 rfl Tryz.call215 rfl (Br9 l t false qz8) (A1 (A0 rfl) (A1 (A0 rfl) (A1 w5 A7)))) ?_
  refine C2 rfl rfl (D7 0 rfl S3 Z0 (A0 rfl) rfl (A0 rfl) qz8 M3) ?_
  refine R1 ?_
  refine N3 0 rfl rfl rfl (A0 rfl) (A0 rfl) (Y5 _ _) rfl Z0 rfl M3 ?_
  refine R5 ?_
  refine G9 i v (i + 1) (v.set i (AA0 l t false)) ?_ ?_ (Le.trans (C1 [0] rfl) (I8 (by (rw [List.map_set]; rfl)) ⟨rfl, rfl, rfl, rfl, trivial⟩))
  ·exact ⟨by omega, by rw [List.length_set]; exact hinv.2.1, p6 hinv.2.2 (part_ok hlo t false)⟩
  omega
 intro h12
 have k12 := of_decide_eq_false h12; try simp only [A5] at k12
 refine R1 ?_
 exact H4 [1, 1, 1, 0, 0, 0, 0] 0 (nin A3.ow w.Txns T ++ nin A2.ow w.Looks L) [] (v) (hinv.2) rfl (show List.Perm (nin A3.ow w.Txns T ++ nin A2.ow w.Looks L) ((nin A3.ow w.Txns T ++ nin A2.ow w.Looks L) ++ []) from B8) B0 (N4 rfl D0 E8)
theorem l4 {T X : Type} {ocs : T → X → List AV} {l : List T} {xs : List X} {i : Nat} {p p' : T} {x : X} (hp : l[i]? = some p) (hx : xs[i]? = some x) : nrows ocs (l.set i p') xs = (nrows ocs l xs).set i (ocs p' x) := by
  rw [← Bx7 (p' := p') hp hx, u3 hp hx]
  have ht := s6 (ocs := ocs) hp hx
  rw [List.set_append_right _ _ qz8, ht, Nat.sub_self, AV5]
theorem AF2 {T X : Type} {ow : T → X → List Go.AV.Own} : ∀ {l : List T} {xs : List X} {i : Nat} {p p' : T}, l[i]? = some p → (∀ x, ow p' x = ow p x) → nin ow (l.set i p') xs = nin ow l xs
  | [], _, _, _, _, h, _ => by simp at h
  | q :: l, [], i, _, _, h, _ => by cases i <;> rfl
  | q :: l, y :: xs, 0, p, p', h, he => by
    simp at h; subst h
    show ow p' y ++ nin ow l xs = ow q y ++ nin ow l xs
    rw [he]
  | q :: l, y :: xs, i + 1, p, p', h, he => by
    show ow q y ++ nin ow (l.set i p') xs = ow q y ++ nin ow l xs
    rw [AF2 (l := l) w4 he]
def Ax9 (t : A3) : A3 := { t with Dead := true }
def Ay0 (w : TWorld) (t : Int) : TWorld := match w.Txns[(t - 1).toNat]? with
  | some x => wTxn w (t - 1).toNat (Ax9 x)
  | none => w
theorem died_wi {w : TWorld} (hw : WI w) (t : Int) : WF w (Ay0 w t) := by
  unfold Ay0
  split
  · rename_i x hx
    have h := hw.txns.2 x (C6 hx)
    have h2 := AT9 hw (i := (t - 1).toNat) (t := Ax9 x) ⟨h.terms, h.ops, h.got, h.span⟩
    exact ⟨h2.1, h2.2, rfl, rfl⟩
  · exact WF.refl hw
theorem AS5 {w : TWorld} (hw : WI w) {v : List (List I0)} (hv : v.length = w.Locks.length ∧ ∀ l ∈ v, s3 l) : WI (t6 w v) ∧ WS w (t6 w v) :=
  ⟨⟨hw.n, hw.clocks, hw.cuts, ⟨hv.1.trans hw.locks.1, hv.2⟩, hw.promised, hw.groups, hw.txns, hw.looks, hw.now, hw.count⟩, ⟨rfl, rfl, rfl, rfl, rfl, rfl⟩⟩
theorem AS6 {w : TWorld} (hw : WI w) {v : List (List I0)} (hv : v.length = w.Locks.length ∧ ∀ l ∈ v, s3 l) : WF w (t6 w v) := ⟨(AS5 hw hv).1, (AS5 hw hv).2, rfl, rfl⟩
theorem AX6 (b : Nat) (w : TWorld) (X : WX) (T : List (Value × Value)) (L : List Value) (t : Int) (hw : WI w) (hT : T.length = w.Txns.length) (ht : 1 ≤ t ∧ t ≤ 1000000) : C8 Tryz.prog 212 [AV.ptr b 0, AV.int t] (WB b w X T L) (fun v : TWorld => WF w v) (fun v => WB b v X T L) (fun _ => AV.tup []) := by
 have hng := hw.n
 have hd := died_wi hw t
 have hfr := An4 b (Ay0 w t) X T L t hd.wi
 obtain ⟨W', hW⟩ : ∃ W' : TWorld, Ay0 w t = W' := ⟨_, rfl⟩
 rw [hW] at hfr hd
 refine C3 Tryz.func212 rfl Tryz.ntmps212 rfl ?_
 refine R12 ?_
 refine A8 (A0 rfl) ?_ ?_
 ·intro h11
  have k11 := of_decide_eq_true h11; try simp only [A5] at k11
  have hlt : (t - 1).toNat < w.Txns.length := (by simp only [S8 hT] at k11; omega)
  obtain ⟨tx, htx⟩ := get_some hlt
  obtain ⟨y, hy⟩ := get_some (show (t - 1).toNat < T.length by omega)
  have hW1 : W' = wTxn w (t - 1).toNat (Ax9 tx) := (by rw [← hW]; unfold Ay0; rw [htx])
  refine R8 ?_
  refine A4 rfl (D7 5 rfl K4 O6 (A0 rfl) rfl (A0 rfl) qz8 (by rw [S8 hT]; omega)) ?_
  refine A4 rfl (J2 5 rfl H8 rfl O9 (A0 rfl) rfl rfl qz2) ?_
  refine T3 5 rfl rfl rfl (A0 rfl) w5 (y7 _) rfl O9 qz2 rfl ?_
  refine R1 ?_
  refine I5 (show _ = WB b W' X T L from qz134) ?_
  refine R3 ?_
  refine I2 [0, 0, 0, 0, 0, 0, 0] 0 7 (nin A3.ow W'.Txns T ++ nin A2.ow W'.Looks L) ([]) (fun zz => nin A3.ow W'.Txns T ++ nin A2.ow W'.Looks L) rfl rfl rfl rfl Tryz.call198 rfl rfl (show List.Perm (nin A3.ow W'.Txns T ++ nin A2.ow W'.Looks L) ((nin A3.ow W'.Txns T ++ nin A2.ow W'.Looks L) ++ ([])) from B8) (hfr) (A1 (A0 rfl) (A1 (A0 rfl) A7)) (fun a => K0) ?_
  intro x23 ok23
  refine R1 ?_
  exact H4 [0, 0, 0, 0, 0, 0, 0] 0 (nin A3.ow W'.Txns T ++ nin A2.ow W'.Looks L) [] ((t6 W' x23)) (hd.trans (AS6 hd.wi ok23)) rfl (show List.Perm (nin A3.ow W'.Txns T ++ nin A2.ow W'.Looks L) ((nin A3.ow W'.Txns T ++ nin A2.ow W'.Looks L) ++ []) from B8) B0 (N4 rfl D0 E8)
 intro h11
 have k11 := of_decide_eq_false h11; try simp only [A5] at k11
 have hW1 : W' = w := (by rw [← hW]; unfold Ay0; rw [List.getElem?_eq_none (by simp only [S8 hT] at k11; omega)])
 refine R1 ?_
 refine I5 (show _ = WB b W' X T L from qz134) ?_
 refine R3 ?_
 refine I2 [0, 0, 0, 0, 0, 0, 0] 0 7 (nin A3.ow W'.Txns T ++ nin A2.ow W'.Looks L) ([]) (fun zz => nin A3.ow W'.Txns T ++ nin A2.ow W'.Looks L) rfl rfl rfl rfl Tryz.call198 rfl rfl (show List.Perm (nin A3.ow W'.Txns T ++ nin A2.ow W'.Looks L) ((nin A3.ow W'.Txns T ++ nin A2.ow W'.Looks L) ++ ([])) from B8) (hfr) (A1 (A0 rfl) (A1 (A0 rfl) A7)) (fun a => K0) ?_
 intro x23 ok23
 refine R1 ?_
 exact H4 [0, 0, 0, 0, 0, 0, 0] 0 (nin A3.ow W'.Txns T ++ nin A2.ow W'.Looks L) [] ((t6 W' x23)) (hd.trans (AS6 hd.wi ok23)) rfl (show List.Perm (nin A3.ow W'.Txns T ++ nin A2.ow W'.Looks L) ((nin A3.ow W'.Txns T ++ nin A2.ow W'.Looks L) ++ []) from B8) B0 (N4 rfl D0 E8)
theorem Au4 {α : Type} {g : α → AV} {v : List α} {k : Int} {x : α} (h : v[k.toNat]? = some x) : (v.map fun l => [g l]).flatten[k.toNat * 1]? = some (g x) := by
  rw [Ak4, Nat.mul_one, List.getElem?_map, h]; rfl
theorem s9 {w : TWorld} {T : List (Value × Value)} {L : List Value} {i : Nat} {tx : A3} {y : Value × Value} (hp : w.Txns[i]? = some tx) (hy : T[i]? = some y) : (nin A3.ow w.Txns T ++ nin A2.ow w.Looks L).Perm (A3.ow tx y ++ (nin A3.ow (w.Txns.eraseIdx i) (T.eraseIdx i) ++ nin A2.ow w.Looks L)) := by
  rw [← List.append_assoc]
  exact (z6 (ow := A3.ow) hp hy).append_right _
theorem BX2 (b : Nat) (w : TWorld) (X : WX) (T : List (Value × Value)) (L : List Value) (g t : Int) (tx : A3) (y : Value × Value) (n : Int) (gi : TGroup) (htx : w.Txns[(t - 1).toNat]? = some tx) (hy : T[(t - 1).toNat]? = some y) (hT : T.length = w.Txns.length) (ht : 1 ≤ t ∧ t ≤ 1000000) (hg0 : 0 ≤ g) (hn : tx.Terms[g.toNat]? = some n) (hx : w.Groups[g.toNat]? = some gi) : C8 Tryz.prog 230 [AV.ptr b 0, AV.int g, AV.int t] (WB b w X T L) (fun _ : Unit => True) (fun _ => WB b w X T L) (fun _ => AV.bool ((n != 0) && (n != gi.Term))) := by
  have htl := (List.getElem?_eq_some_iff.1 htx).1
  have hgl := (List.getElem?_eq_some_iff.1 hx).1
  have hnl := (List.getElem?_eq_some_iff.1 hn).1
  refine C3 Tryz.func230 rfl Tryz.ntmps230 rfl ?_
  refine R5 ?_
  refine AWP.le (O2 7 (t := ([Go.AV.Own.arr y.1 45 3 (tx.Got.map G4.cs), Go.AV.Own.arr y.2 3 1 (tx.Terms.map fun n => [AV.int n])]) ++ (nin A3.ow (w.Txns.eraseIdx (t - 1).toNat) (T.eraseIdx (t - 1).toNat) ++ nin A2.ow w.Looks L)) (s9 htx hy)) ?_
  refine R8 ?_
  refine A4 rfl (D7 5 rfl K4 O6 (A0 rfl) rfl (A0 rfl) qz8 AM8) ?_
  refine A4 rfl (J2 5 rfl H8 rfl Tryz.sizeOf25 (A0 rfl) rfl rfl qz2) ?_
  refine A4 rfl (K5 5 rfl (A0 rfl) rfl Tryz.isAgg25 qz2 rfl) ?_
  refine R1 ?_
  refine A4 rfl (D7 8 rfl B3 B4 (A0 rfl) rfl (A0 rfl) qz8 AM8) ?_
  refine A4 rfl (Q1 8 rfl (A0 rfl) rfl H3 (Au4 (g := AV.int) hn)) ?_
  refine R3 ?_
  refine AWP.le (C1 [0, 0, 0, 0, 0, 0, 0, 0, 0] rfl) ?_
  refine AWP.le (O2 7 (t := nin A3.ow w.Txns T ++ nin A2.ow w.Looks L) ((s9 htx hy).symm)) ?_
  refine R11 ?_
  refine L3 rfl (fun hc => D7 2 rfl G8 C9 (B1 rfl hc) rfl (B1 rfl hc) qz8 AM8) ?_
  refine L3 rfl (fun hc => J2 2 rfl S2 rfl B4 (B1 rfl hc) rfl rfl qz5) ?_
  refine L3 rfl (fun hc => K5 2 rfl (B1 rfl hc) rfl H3 qz5 rfl) ?_
  refine R5 ?_
  exact H4 [0, 0, 0, 0, 0, 0, 0] 0 (nin A3.ow w.Txns T ++ nin A2.ow w.Looks L) [] () (trivial) rfl (show List.Perm (nin A3.ow w.Txns T ++ nin A2.ow w.Looks L) ((nin A3.ow w.Txns T ++ nin A2.ow w.Looks L) ++ []) from B8) B0 (E6 rfl (A6 rfl B0))
end Go.Proofs.YtcfkbhnpfjjmjaaGreat
namespace Go.M
open Go.AV
theorem CJ2 (l : List Int) (n : Int) : (putI l n).length ≤ l.length + 1 := by
  induction l with
  | nil => simp [putI]
  | cons y l ih =>
    unfold putI
    split
    · rw [H6, H6]; omega
    · split <;> simp
theorem BX3 {n m : Int} : ∀ {l : List Int}, m ∈ putI l n → m = n ∨ m ∈ l
  | [], h => by unfold putI at h; exact .inl (List.mem_singleton.1 h)
  | x :: l, h => by
    unfold putI at h
    split at h
    · rcases List.mem_cons.1 h with h | h
      · exact .inr (h ▸ List.mem_cons_self)
      · rcases BX3 h with h | h
        · exact .inl h
        · exact .inr (List.mem_cons_of_mem _ h)
    · split at h
      · exact .inr h
      · rcases List.mem_cons.1 h with h | h
        · exact .inl h
        · exact .inr h
theorem BK0 {m : Int} : ∀ {l : List I0} {a : List Int}, m ∈ l.foldl (fun a y => putI a y.Txn) a → m ∈ a ∨ ∃ y ∈ l, y.Txn = m
  | [], a, h => .inl h
  | y :: l, a, h => by
    rw [List.foldl_cons] at h
    rcases BK0 h with h | ⟨z, hz, e⟩
    · rcases BX3 h with h | h
      · exact .inr ⟨y, List.mem_cons_self, h.symm⟩
      · exact .inl h
    · exact .inr ⟨z, List.mem_cons_of_mem _ hz, e⟩
theorem ask_mem9 {l : List I0} {x : I0} (h : s3 l) : ∀ n ∈ (AP0 l [] x (waitsS l x)).2, 1 ≤ n ∧ n ≤ 1000000 := fun n hn => by
  have hw : n ∈ waitsS l x := by
    unfold AP0 at hn
    split at hn
    · cases hn
    · split at hn
      · cases hn
      · exact hn
  unfold waitsS at hw
  rcases BK0 hw with h1 | ⟨y, hy, e⟩
  · cases h1
  · rw [← e]; exact (h.2 y (List.mem_filter.1 hy).1).1
theorem ask_len9 {l : List I0} {x : I0} : (AP0 l [] x (waitsS l x)).2.length ≤ l.length := by
  have h : (waitsS l x).length ≤ l.length := by
    have h1 : ∀ (m : List I0) (a : List Int), (m.foldl (fun a y => putI a y.Txn) a).length ≤ a.length + m.length := fun m => by
      induction m with
      | nil => intro a; simp
      | cons y m ih => intro a; rw [List.foldl_cons]; have h2 := ih (putI a y.Txn); have h3 := CJ2 a y.Txn; rw [H6]; omega
    have h2 := h1 (l.filter (AU6 x)) []
    have h3 := List.length_filter_le (AU6 x) l
    unfold waitsS
    rw [N1] at h2; omega
  unfold AP0
  split
  · exact Nat.zero_le _
  · split
    · exact Nat.zero_le _
    · exact h
theorem BX4 {x z : I0} : ∀ {l : List I0}, z ∈ takeL l x → z = x ∨ ∃ y ∈ l, z.Key = y.Key ∧ z.Txn = y.Txn
  | [], h => by unfold takeL at h; exact .inl (List.mem_singleton.1 h)
  | y :: l, h => by
    unfold takeL at h
    split at h
    · rcases List.mem_cons.1 h with h | h
      · exact .inr ⟨y, List.mem_cons_self, by rw [h], by rw [h]⟩
      · exact .inr ⟨z, List.mem_cons_of_mem _ h, rfl, rfl⟩
    · rcases List.mem_cons.1 h with h | h
      · exact .inr ⟨y, List.mem_cons_self, by rw [h], by rw [h]⟩
      · rcases BX4 h with h | ⟨q, hq, e⟩
        · exact .inl h
        · exact .inr ⟨q, List.mem_cons_of_mem _ hq, e⟩
theorem take_ok9 {l : List I0} {x : I0} (h : s3 l) (hx : (1 ≤ x.Txn ∧ x.Txn ≤ 1000000) ∧ x.Key.length ≤ 64) (hl : (takeL l x).length ≤ 60) : s3 (takeL l x) := by
  refine ⟨hl, fun z hz => ?_⟩
  rcases BX4 hz with e | ⟨y, hy, e1, e2⟩
  · rw [e]; exact hx
  · have h9 := h.2 y hy
    refine ⟨by rw [e2]; exact h9.1, ?_⟩
    have h8 := h9.2
    unfold I0.size at h8 ⊢; rw [e1]; exact h8
theorem BX5 {x : I0} : ∀ {l : List I0}, (takeL l x).length ≤ l.length + 1
  | [] => by unfold takeL; exact Nat.le_refl _
  | y :: l => by
    unfold takeL
    split
    · simp
    · rw [H6, H6]; have := BX5 (x := x) (l := l); omega
theorem AB2 {α : Type} {l : List α} {i : Nat} {x y : α} (h : l[i]? = some x) : (l.set i y)[i]? = some y := List.getElem?_set_self (List.getElem?_eq_some_iff.1 h).1
theorem AW6 {T X : Type} {ocs : T → X → List AV} {l : List T} {xs : List X} {i : Nat} (h : l[i]? = none ∨ xs[i]? = none) : (nrows ocs l xs)[i]? = none := by
  unfold nrows
  rw [List.getElem?_zipWith]
  rcases h with h | h
  · rw [h]
  · rw [h]; cases l[i]? <;> rfl
def Z3 (t : A3) (g : Nat) (n : Int) : A3 := { t with Terms := t.Terms.set g n }
theorem wf_lock {w : TWorld} (hw : WI w) {g : Nat} {l : List I0} (hl : s3 l) {i : Nat} {t : A3} (ht : w.Txns[i]? = some t) (n : Int) : WF w (wTxn (wLocks w g l) i (Z3 t g n)) := by
  have h1 := Bh7 hw (i := g) hl
  have h := hw.txns.2 t (C6 ht)
  have h2 := AT9 h1.1 (i := i) (t := Z3 t g n) ⟨by show (t.Terms.set g n).length = _; rw [List.length_set]; exact h.terms, h.ops, h.got, h.span⟩
  exact ⟨h2.1, h1.2.trans h2.2, rfl, rfl⟩
end Go.M
namespace Go.Proofs.YtcfkbhnpfjjmjaaGreat
open Go Go.AV Go.M
attribute [local irreducible] OpW OpA OpS AWP B9 J5 C8 OpE RetOk H1 I9 Le Ev F6 J9 V9 Int.tmod Int.tdiv IntKind.wrap bandI
theorem BX6 {T X : Type} {ocs : T → X → List AV} {l : List T} {xs : List X} {i : Nat} {p p' : T} {x x' : X} (hp : l[i]? = some p) (hx : xs[i]? = some x) : nrows ocs (l.set i p') (xs.set i x') = (nrows ocs l xs).set i (ocs p' x') := by
  apply List.ext_getElem?
  intro j
  by_cases e : i = j
  · subst e
    rw [Q3 (AB2 hp) (AB2 hx), AB2 (Q3 hp hx)]
  · rw [List.getElem?_set_ne e]
    cases h1 : l[j]? with
    | none => rw [AW6 (by rw [List.getElem?_set_ne e]; exact .inl h1), AW6 (.inl h1)]
    | some q =>
      cases h2 : xs[j]? with
      | none => rw [AW6 (by rw [List.getElem?_set_ne e (l := xs)]; exact .inr h2), AW6 (.inr h2)]
      | some z => rw [Q3 (by rw [List.getElem?_set_ne e]; exact h1) (by rw [List.getElem?_set_ne e]; exact h2), Q3 h1 h2]
theorem CC0 {T X : Type} {ocs : T → X → List AV} {l : List T} {xs : List X} {i : Nat} {p p' : T} {x : X} (hp : l[i]? = some p) (hx : xs[i]? = some x) (he : ocs p' x = ocs p x) : nrows ocs (l.set i p') xs = nrows ocs l xs := by rw [l4 hp hx, he, Ah6 (Q3 hp hx)]
theorem BK1 {w : TWorld} {T : List (Value × Value)} {L : List Value} {i : Nat} {p p' : A3} {y y' : Value × Value} (hp : w.Txns[i]? = some p) (hy : T[i]? = some y) : (A3.ow p' y' ++ (nin A3.ow (w.Txns.eraseIdx i) (T.eraseIdx i) ++ nin A2.ow w.Looks L)).Perm (nin A3.ow (w.Txns.set i p') (T.set i y') ++ nin A2.ow w.Looks L) := by
  have h9 := z6 (ow := A3.ow) (AB2 (y := p') hp) (AB2 (y := y') hy)
  rw [List.eraseIdx_set_eq, List.eraseIdx_set_eq] at h9
  rw [← List.append_assoc]
  exact h9.symm.append_right _
theorem Au5 {w : TWorld} {T : List (Value × Value)} {L : List Value} {i : Nat} {p : A2} {y : Value} (hp : w.Looks[i]? = some p) (hy : L[i]? = some y) : (nin A3.ow w.Txns T ++ nin A2.ow w.Looks L).Perm (A2.ow p y ++ (nin A2.ow (w.Looks.eraseIdx i) (L.eraseIdx i) ++ nin A3.ow w.Txns T)) := by
  refine List.perm_append_comm.trans ?_
  rw [← List.append_assoc]
  exact (z6 (ow := A2.ow) hp hy).append_right _
theorem lk_put {w : TWorld} {T : List (Value × Value)} {L : List Value} {i : Nat} {p p' : A2} {y y' : Value} (hp : w.Looks[i]? = some p) (hy : L[i]? = some y) : (A2.ow p' y' ++ (nin A2.ow (w.Looks.eraseIdx i) (L.eraseIdx i) ++ nin A3.ow w.Txns T)).Perm (nin A3.ow w.Txns T ++ nin A2.ow (w.Looks.set i p') (L.set i y')) := by
  have h9 := z6 (ow := A2.ow) (AB2 (y := p') hp) (AB2 (y := y') hy)
  rw [List.eraseIdx_set_eq, List.eraseIdx_set_eq] at h9
  rw [← List.append_assoc]
  exact (h9.symm.append_right _).trans List.perm_append_comm
theorem Bk8 (b : Nat) (w : TWorld) (X : WX) (T : List (Value × Value)) (L : List Value) (g t : Int) (k : Str) (write : Bool) (gi : TGroup) (hw : WI w) (hT : T.length = w.Txns.length) (ht : 1 ≤ t ∧ (t - 1).toNat < w.Txns.length) (h0 : 0 ≤ g) (hx : w.Groups[g.toNat]? = some gi) (hl : 0 ≤ gi.Lead) (hk : k.length ≤ 12) : C8 Tryz.prog 231 [AV.ptr b 0, AV.int g, AV.int t, AV.str k, AV.bool write] (WB b w X T L) (fun v : TWorld × Bool => WF w v.1) (fun v => WB b v.1 X T L) (fun v => AV.bool v.2) := by
 have hng := hw.n
 have htn := hw.txns.1
 have hgi := hw.groups gi (C6 hx)
 have hgl := (List.getElem?_eq_some_iff.1 hx).1
 obtain ⟨lo, hlx⟩ := get_some (show g.toNat < w.Locks.length by rw [hw.locks.1]; omega)
 have hlo := hw.locks.2 lo (C6 hlx)
 have hlo60 := hlo.1
 have hll := (List.getElem?_eq_some_iff.1 hlx).1
 obtain ⟨kr, hko⟩ := Bj9 b w X T L g t k write gi hx h0 hgi.good hl
 obtain ⟨W, hW⟩ : ∃ W, (AP0 lo [] ⟨k, t, write⟩ (waitsS lo ⟨k, t, write⟩)).2 = W := ⟨_, rfl⟩
 obtain ⟨cd, hcd⟩ : ∃ cd, (AP0 lo [] ⟨k, t, write⟩ (waitsS lo ⟨k, t, write⟩)).1 = cd := ⟨_, rfl⟩
 have hwm := ask_mem9 (x := ⟨k, t, write⟩) hlo
 have hask := Bk7 lo [] ⟨k, t, write⟩ qz8
 rw [hcd, hW] at hask
 have hWl : W.length ≤ 60 := by rw [← hW]; exact Nat.le_trans (ask_len9 (x := ⟨k, t, write⟩)) hlo60
 rw [hW] at hwm
 refine C3 Tryz.func231 rfl Tryz.ntmps231 rfl ?_
 refine R12 ?_
 refine A4 rfl (X6 [0, 0, 0, 0, 0, 0, 0] 0 (nin A3.ow w.Txns T ++ nin A2.ow w.Looks L) ([]) rfl Tryz.call245 rfl rfl (B8) (hko) (A1 (A0 rfl) (A1 (A0 rfl) (A1 (A0 rfl) (A1 (A0 rfl) (A1 (A0 rfl) A7)))))) ?_
 refine R1 ?_
 refine A8 (A0 rfl) ?_ ?_
 ·intro h22
  refine R5 ?_
  exact H4 [0, 0, 0, 0, 0, 0, 0] 0 (nin A3.ow w.Txns T ++ nin A2.ow w.Looks L) [] ((w, false)) (qz38) rfl (show List.Perm (nin A3.ow w.Txns T ++ nin A2.ow w.Looks L) ((nin A3.ow w.Txns T ++ nin A2.ow w.Looks L) ++ []) from B8) qz76 (E6 rfl (A6 rfl B0))
 intro h22
 refine R8 ?_
 intro b11
 refine R10 ?_
 refine C2 rfl rfl (D7 4 rfl S3 Z0 (A0 rfl) rfl (A0 rfl) qz8 BN6) ?_
 refine C2 rfl rfl (Q1 4 rfl (A0 rfl) rfl Tryz.isAgg203 (Au4 (g := fun l => AV.list 3 (l.map I0.cs)) hlx)) ?_
 refine R1 ?_
 refine C2 rfl rfl (B2 rfl Tryz.call246 rfl (hask) (A1 (A0 rfl) (A1 P8 (A1 (A0 rfl) A7)))) ?_
 refine R12 ?_
 refine A8 (A0 rfl) ?_ ?_
 ·intro h41
  have k41 := D2 h41; try simp only [A5] at k41
  refine R5 ?_
  exact H4 [1, 1, 1, 1, 1, 1, 1] 1 (nin A3.ow w.Txns T ++ nin A2.ow w.Looks L) [] ((w, false)) (qz38) rfl (show List.Perm (nin A3.ow w.Txns T ++ nin A2.ow w.Looks L) ((nin A3.ow w.Txns T ++ nin A2.ow w.Looks L) ++ []) from B8) qz76 (E6 rfl (A6 rfl B0))
 intro h41
 have k41 := D6 h41; try simp only [A5] at k41
 refine R9 ?_
 refine I5 qz117 ?_
 refine AWP.le (C1 [1, 1, 1, 1, 1, 1, 1] rfl) ?_
 refine J7 [(0, _), (1, _), (2, _), (10, _), (11, _), (42, _), (43, _)] [] (fun (i : Nat) (v : TWorld) => i ≤ W.length ∧ WF w v) (fun (i : Nat) (v : TWorld) => [.box b 199 [AV.int v.Now, AV.int v.Count, AV.is X.cl, strs v.Cuts, AV.is X.gr, AV.is X.lo, AV.is X.pr, AV.is X.tx, AV.is X.lk], .arr X.cl 234 1 (v.Clocks.map V6.cs), .arr X.gr 178 3 (v.Groups.map TGroup.cs), .arr X.lo 203 1 (v.Locks.map fun l => [AV.list 3 (l.map I0.cs)]), .arr X.pr 3 1 (v.Promised.map fun n => [AV.int n]), .arr X.tx 143 10 (nrows A3.ocs v.Txns T), .arr X.lk 152 6 (nrows A2.ocs v.Looks L), .box b11 277 (I0.mk k t write).cs] ++ (nin A3.ow v.Txns T ++ nin A2.ow v.Looks L)) (fun (i : Nat) (v : TWorld) => [(44, AV.int i)]) (fun (i : Nat) (v : TWorld) => W.length - i) (0) (w) ?_ (I8 (by (rw [List.append_nil]; rfl)) ⟨rfl, rfl, rfl, rfl, rfl, rfl, rfl, rfl, trivial⟩) ?_
 ·exact ⟨Nat.zero_le _, WF.refl hw⟩
 intro i v hinv
 refine I5 (List.append_nil _) ?_
 refine R5 ?_
 refine A8 (A0 rfl) ?_ ?_
 ·intro h45
  have k45 := of_decide_eq_true h45; try simp only [A5] at k45
  have hlt : i < W.length := (by simpa using h45)
  obtain ⟨y, hy⟩ := get_some hlt
  have hy1 := hwm y (C6 hy)
  have hTv : T.length = v.Txns.length := hT.trans hinv.2.ws.txns.symm
  refine R5 ?_
  refine A4 rfl (C7 rfl B3 B4 (A0 rfl) (A0 rfl) hy qz4) ?_
  refine R6 ?_
  refine I2 [0, 0, 0, 0, 0, 0, 0] 1 7 (nin A3.ow v.Txns T ++ nin A2.ow v.Looks L) ([]) (fun zz => nin A3.ow zz.Txns T ++ nin A2.ow zz.Looks L) rfl rfl rfl rfl Tryz.call212 rfl rfl (show List.Perm (nin A3.ow v.Txns T ++ nin A2.ow v.Looks L) ((nin A3.ow v.Txns T ++ nin A2.ow v.Looks L) ++ ([])) from B8) (AX6 b v X T L y hinv.2.wi hTv hy1) (A1 (A0 rfl) (A1 (A0 rfl) A7)) (fun a => K0) ?_
  intro x50 ok50
  refine R5 ?_
  refine G9 i v (i + 1) (x50) ?_ ?_ (I8 (Eq.trans B0 (List.append_nil _).symm) ⟨rfl, rfl, rfl, rfl, rfl, rfl, rfl, rfl, trivial⟩)
  ·exact ⟨by omega, hinv.2.trans ok50⟩
  omega
 intro h45
 have k45 := of_decide_eq_false h45; try simp only [A5] at k45
 have hv := hinv.2
 have hTv : T.length = v.Txns.length := hT.trans hv.ws.txns.symm
 obtain ⟨tx, htx⟩ := get_some (show (t - 1).toNat < v.Txns.length by rw [hv.ws.txns]; exact ht.2)
 obtain ⟨z, hz⟩ := get_some (show (t - 1).toNat < T.length by omega)
 obtain ⟨n, hn⟩ := get_some (show g.toNat < tx.Terms.length by rw [(hv.wi.txns.2 tx (C6 htx)).terms, hv.gr]; exact hgl)
 have hnl := (List.getElem?_eq_some_iff.1 hn).1
 obtain ⟨lv, hlx⟩ := get_some (show g.toNat < v.Locks.length by rw [hv.wi.locks.1, hv.gr]; exact hgl)
 have hll := (List.getElem?_eq_some_iff.1 hlx).1
 have hlvo := hv.wi.locks.2 lv (C6 hlx)
 have hlv60 := hlvo.1
 have htl := BX5 (x := ⟨k, t, write⟩) (l := lv)
 have hx : v.Groups[g.toNat]? = some gi := (by rw [hv.gr]; exact hx)
 have hgl := (List.getElem?_eq_some_iff.1 hx).1
 refine R9 ?_
 refine C2 rfl rfl (D7 3 rfl S3 Z0 (A0 rfl) rfl (A0 rfl) qz8 BN6) ?_
 refine C2 rfl rfl (Q1 3 rfl (A0 rfl) rfl Tryz.isAgg203 (Au4 (g := fun l => AV.list 3 (l.map I0.cs)) hlx)) ?_
 refine R1 ?_
 refine C2 rfl rfl (B2 rfl Tryz.call247 rfl (Bb4 lv ⟨k, t, write⟩ qz8) (A1 (A0 rfl) (A1 (A0 rfl) A7))) ?_
 refine R9 ?_
 refine A8 (A0 rfl) ?_ ?_
 ·intro h64
  have k64 := of_decide_eq_true h64; try simp only [A5] at k64
  refine R5 ?_
  exact H4 [0, 0, 0, 0, 0, 0, 0] 1 (nin A3.ow v.Txns T ++ nin A2.ow v.Looks L) [] ((v, false)) (qz38) rfl (show List.Perm (nin A3.ow v.Txns T ++ nin A2.ow v.Looks L) ((nin A3.ow v.Txns T ++ nin A2.ow v.Looks L) ++ []) from B8) qz76 (E6 rfl (A6 rfl B0))
 intro h64
 have k64 := of_decide_eq_false h64; try simp only [A5] at k64
 refine R10 ?_
 refine A4 rfl (D7 3 rfl S3 Z0 (A0 rfl) rfl (A0 rfl) qz8 BN6) ?_
 refine N3 3 rfl rfl rfl (A0 rfl) (A0 rfl) (Y5 _ _) rfl Z0 rfl M3 ?_
 refine R2 ?_
 refine I5 w8 ?_
 refine AWP.le (O2 8 (t := ([Go.AV.Own.arr z.1 45 3 (tx.Got.map G4.cs), Go.AV.Own.arr z.2 3 1 (tx.Terms.map fun n => [AV.int n])]) ++ (nin A3.ow (v.Txns.eraseIdx (t - 1).toNat) (T.eraseIdx (t - 1).toNat) ++ nin A2.ow v.Looks L)) (s9 htx hz)) ?_
 refine L6 21 F1 F1 rfl ?_
 refine R7 ?_
 refine C2 rfl rfl (D7 5 rfl K4 O6 (A0 rfl) rfl (A0 rfl) qz8 BN6) ?_
 refine C2 rfl rfl (J2 5 rfl H8 rfl Tryz.sizeOf25 (A0 rfl) rfl rfl qz83) ?_
 refine C2 rfl rfl (K5 5 rfl (A0 rfl) rfl Tryz.isAgg25 qz83 rfl) ?_
 refine R7 ?_
 refine C2 rfl rfl (D7 2 rfl G8 C9 (A0 rfl) rfl (A0 rfl) qz8 BN6) ?_
 refine C2 rfl rfl (J2 2 rfl S2 rfl B4 (A0 rfl) rfl rfl qz5) ?_
 refine C2 rfl rfl (K5 2 rfl (A0 rfl) rfl H3 qz5 rfl) ?_
 refine C2 rfl rfl (D7 9 rfl B3 B4 (A0 rfl) rfl (A0 rfl) qz8 BN6) ?_
 refine R1 ?_
 refine N3 9 rfl rfl rfl (A0 rfl) (A0 rfl) (M5 _ _) rfl B4 rfl M3 ?_
 refine R2 ?_
 refine I5 w8 ?_
 refine AWP.le (C1 [0, 0, 0, 0, 0, 0, 0, 0, 0, 0] rfl) ?_
 refine AWP.le (O2 8 (t := nin A3.ow (v.Txns.set (t - 1).toNat (Z3 tx g.toNat gi.Term)) T ++ nin A2.ow v.Looks L) ((by have h9 := BK1 (w := v) (L := L) (p' := Z3 tx g.toNat gi.Term) (y' := z) htx hz; rw [Ah6 hz] at h9; unfold A3.ow Z3 at h9 ⊢; dsimp only at h9; rw [List.map_set] at h9; exact h9))) ?_
 refine R4 ?_
 exact H4 [0, 0, 0, 0, 0, 0, 0] 1 (nin A3.ow (v.Txns.set (t - 1).toNat (Z3 tx g.toNat gi.Term)) T ++ nin A2.ow v.Looks L) [] ((wTxn (wLocks v g.toNat (takeL lv ⟨k, t, write⟩)) (t - 1).toNat (Z3 tx g.toNat gi.Term), true)) (qz38) rfl (show List.Perm (nin A3.ow (v.Txns.set (t - 1).toNat (Z3 tx g.toNat gi.Term)) T ++ nin A2.ow v.Looks L) ((nin A3.ow (v.Txns.set (t - 1).toNat (Z3 tx g.toNat gi.Term)) T ++ nin A2.ow v.Looks L) ++ []) from B8) qz76 (E6 rfl (A6 rfl B0))
end Go.Proofs.YtcfkbhnpfjjmjaaGreat
namespace Go.Proofs
open Go.Shelf
end Go.Proofs
namespace Go.Proofs.YtcfkbhnpfjjmjaaGreat
open Go Go.AV Go.M
attribute [local irreducible] OpW OpA OpS AWP B9 J5 C8 OpE RetOk H1 I9 Le Ev F6 J9 Int.tmod Int.tdiv IntKind.wrap
theorem BK2 (n : Nat) : n ≤ 1000000000000 → B9 Tryz.prog 172 [AV.int n] (AV.str (decD n)) := by
 induction n using Nat.strongRecOn with
 | ind n ih =>
  intro hn
  refine B7 Tryz.func172 rfl Tryz.ntmps172 rfl ?_
  refine R2 ?_
  refine A4 rfl (D4 rfl (L4 (l := []) rfl)) ?_
  refine R7 ?_
  refine A8 (A0 rfl) ?_ ?_
  ·intro h4
   have k4 := of_decide_eq_true h4; try simp only [A5] at k4
   have hn10 : n < 10 := by omega
   refine R4 ?_
   refine A4 rfl (AH8 rfl F1 Tryz.underlying5 (A0 rfl)) ?_
   rw [dig1]
   refine R1 ?_
   refine A4 rfl (Bu5 (bs := [UInt8.ofNat (48 + n)]) rfl f4 Tryz.underlying5 L8 (A0 rfl)) ?_
   refine R3 ?_
   exact D5 rfl (A6 rfl qz176)
  intro h4
  have k4 := of_decide_eq_false h4; try simp only [A5] at k4
  have hn10 : ¬ n < 10 := by omega
  have hdl := AZ7 (k := 12) (n := n / 10) qz8 D0
  refine R4 ?_
  refine C2 rfl rfl (w_quo rfl (A0 rfl) D8 D0) ?_
  rw [quo10 hn]
  refine C2 rfl rfl (B2 rfl Tryz.call172 rfl (ih (n / 10) qz8 qz8) (A1 (A0 rfl) A7)) ?_
  refine R1 ?_
  refine C2 rfl rfl (Aj5 rfl (A0 rfl) D8 D0) ?_
  refine C2 rfl rfl (Ag0 rfl D8 (A0 rfl) (by rw [tmod10T]; omega)) ?_
  refine C2 rfl rfl (AH8 rfl F1 Tryz.underlying5 (A0 rfl)) ?_
  rw [dig2]
  refine R1 ?_
  refine C2 rfl rfl (Bu5 (bs := [UInt8.ofNat (48 + n % 10)]) rfl f4 Tryz.underlying5 L8 (A0 rfl)) ?_
  refine C2 rfl rfl (w_cat rfl (A0 rfl) (A0 rfl) qz183) ?_
  refine R3 ?_
  exact D5 rfl (A6 rfl qz176)
theorem CJ3 (b : UInt8) (r : Str) : Aa8 (b :: r) = (!within ((b :: r).length : Nat) 1 6 || (((b.toNat : Int) == 48) && decide ((1 : Int) < ((b :: r).length : Nat)))) := by
  unfold Aa8
  have : (b == 48) = ((b.toNat : Int) == 48) := by
    by_cases h : b = 48
    · subst h; rfl
    · have h2 : b.toNat ≠ 48 := fun e => h (UInt8.toNat_inj.1 e)
      have h3 : (b == 48) = false := by simpa using h
      rw [h3]; symm; simp; omega
  simp [this]
theorem dig_val9 {x : UInt8} (h : 48 ≤ x.toNat ∧ x.toNat ≤ 57) : IntKind.i64.wrap (IntKind.u8.wrap ((x.toNat : Int) - 48)) = ((x.toNat - 48 : Nat) : Int) := by
  have e : IntKind.u8.wrap ((x.toNat : Int) - 48) = ((x.toNat - 48 : Nat) : Int) := by
    simp [IntKind.wrap, IntKind.bits, IntKind.signed]; omega
  rw [e, Ae8 qz8]
theorem rd_next9 {n i : Nat} {s : Str} {x : UInt8} (hx : s[i]? = some x) (h : 48 ≤ x.toNat ∧ x.toNat ≤ 57) : W4 n (s.drop i) = W4 (10 * n + (x.toNat - 48)) (s.drop (i + 1)) := by
  have hlt := (List.getElem?_eq_some_iff.1 hx).1
  rw [List.drop_eq_getElem_cons hlt, (List.getElem?_eq_some_iff.1 hx).2]
  conv => lhs; unfold W4
  rw [if_pos (by unfold Ae0; simp; omega)]
theorem rd_stop9 {n i : Nat} {s : Str} {x : UInt8} (hx : s[i]? = some x) (h : x.toNat < 48 ∨ 57 < x.toNat) : W4 n (s.drop i) = -1 := by
  have hlt := (List.getElem?_eq_some_iff.1 hx).1
  rw [List.drop_eq_getElem_cons hlt, (List.getElem?_eq_some_iff.1 hx).2]
  conv => lhs; unfold W4
  rw [if_neg (by unfold Ae0; simp; omega)]
theorem pow69 {i : Nat} (h : i ≤ 6) : 10 ^ i ≤ 1000000 := Nat.pow_le_pow_right D0 h
theorem pow_nx9 {n i d : Nat} (h : n + 1 ≤ 10 ^ i) (hd : d ≤ 9) : (10 * n + d) + 1 ≤ 10 ^ (i + 1) := by rw [Nat.pow_succ]; omega
theorem Bs0 : B9 Tryz.prog 171 [AV.str []] (AV.int (l1R [])) := by
 refine B7 Tryz.func171 rfl Tryz.ntmps171 rfl ?_
 refine R9 ?_
 refine A4 rfl (B2 rfl Tryz.call30 rfl (N5 _ _ _) (A1 (A0 rfl) (A1 D8 (A1 D8 A7)))) ?_
 refine R3 ?_
 refine P4 rfl (fun hc => (show OpW _ _ _ _ _ _ (AV.byte 0) from (by exfalso; revert hc; decide))) ?_
 refine R8 ?_
 refine A8 (A0 rfl) ?_ ?_
 ·intro h18
  refine R5 ?_
  exact D5 rfl (A6 rfl B0)
 intro h18
 exfalso; revert h18; decide
theorem Bk9 (b : UInt8) (r : Str) (hs : (b :: r).length ≤ 1048576) : B9 Tryz.prog 171 [AV.str (b :: r)] (AV.int (l1R (b :: r))) := by
 have hb0 : (b :: r)[0]? = some b := rfl
 obtain ⟨s, hse⟩ : ∃ s, b :: r = s := ⟨_, rfl⟩
 have hbad := CJ3 b r
 rw [hse] at hs hb0 hbad ⊢
 refine B7 Tryz.func171 rfl Tryz.ntmps171 rfl ?_
 refine R9 ?_
 refine A4 rfl (B2 rfl Tryz.call30 rfl (N5 _ _ _) (A1 (A0 rfl) (A1 D8 (A1 D8 A7)))) ?_
 refine R3 ?_
 refine P4 rfl (fun hc => y5 rfl L8 (B1 rfl hc) D8 (by have := (List.getElem?_eq_some_iff.1 hb0).1; omega) hb0) ?_
 refine R8 ?_
 refine A8 (A0 rfl) ?_ ?_
 ·intro h18
  have he : l1R s = -1 := if_pos (by rw [hbad]; exact h18)
  rw [he]
  refine R5 ?_
  exact D5 rfl (A6 rfl B0)
 intro h18
 have he : l1R s = W4 0 s := if_neg (by rw [hbad, h18]; decide)
 rw [he]
 have hl6 : s.length ≤ 6 := (by simp only [Bool.or_eq_false_iff, Bool.not_eq_false'] at h18; have h9 := h18.1; unfold within at h9; simp at h9; omega)
 refine R11 ?_
 refine J7 [(0, _)] _ (fun (i : Nat) (n : Nat) => i ≤ s.length ∧ W4 0 s = W4 n (s.drop i) ∧ n + 1 ≤ 10 ^ i) (fun (i : Nat) (n : Nat) => []) (fun (i : Nat) (n : Nat) => [(3, AV.int n), (4, AV.int i)]) (fun (i : Nat) (n : Nat) => s.length - i) (0) (0) ?_ (F2 ⟨rfl, rfl, rfl, trivial⟩) ?_
 ·exact ⟨Nat.zero_le _, rfl, by decide⟩
 intro i n hinv
 have hp6 := pow69 (i := i) qz8
 have hn6 := hinv.2.2
 refine R8 ?_
 refine A8 (A0 rfl) ?_ ?_
 ·intro h22
  have k22 := of_decide_eq_true h22; try simp only [A5] at k22
  obtain ⟨x, hx⟩ := get_some (show i < s.length by omega)
  refine R8 ?_
  refine A4 rfl (y5 rfl L8 (A0 rfl) (A0 rfl) qz8 hx) ?_
  refine R4 ?_
  refine P4 rfl (fun hc => y5 rfl L8 (B1 rfl hc) (B1 rfl hc) qz8 hx) ?_
  refine R3 ?_
  refine A8 (A0 rfl) ?_ ?_
  ·intro h34
   have hst := rd_stop9 (n := n) hx (by simp only [Bool.or_eq_true, decide_eq_true_eq] at h34; omega)
   rw [hinv.2.1, hst]
   refine R5 ?_
   exact D5 rfl (A6 rfl B0)
  intro h34
  have hdig : 48 ≤ x.toNat ∧ x.toNat ≤ 57 := (by simp only [Bool.or_eq_false_iff, decide_eq_false_iff_not] at h34; omega)
  refine R3 ?_
  refine A4 rfl (AT1 rfl D8 (A0 rfl) qz4) ?_
  refine R2 ?_
  refine A4 rfl (y5 rfl L8 (A0 rfl) (A0 rfl) qz8 hx) ?_
  refine A4 rfl (w_sub rfl (A0 rfl) D8) ?_
  refine A4 rfl (AH8 rfl F1 d4 (A0 rfl)) ?_
  rw [dig_val9 hdig]
  refine R8 ?_
  refine G9 i n (i + 1) (10 * n + (x.toNat - 48)) ?_ ?_ (F2 ⟨congrArg (fun z => some (AV.int z)) qz8, rfl, rfl, trivial⟩)
  ·exact ⟨by omega, hinv.2.1.trans (rd_next9 hx hdig), pow_nx9 hinv.2.2 qz8⟩
  omega
 intro h22
 have k22 := of_decide_eq_false h22; try simp only [A5] at k22
 have hend : W4 0 s = (n : Int) := (by rw [hinv.2.1, List.drop_of_length_le qz8]; rfl)
 rw [hend]
 refine R7 ?_
 exact D5 rfl (A6 rfl B0)
theorem Au6 (s : Str) (hs : s.length ≤ 1048576) : B9 Tryz.prog 171 [AV.str s] (AV.int (l1R s)) := by
  cases s with
  | nil => exact Bs0
  | cons b r => exact Bk9 b r hs
theorem Bl0 (s : Str) : -1 ≤ l1R s := by
  have h : ∀ (s : Str) (n : Nat), -1 ≤ W4 n s := by
    intro s
    induction s with
    | nil => intro n; unfold W4; omega
    | cons b s ih => intro n; unfold W4; split; exact ih _; omega
  unfold l1R; split
  · omega
  · exact h s 0
theorem rd_up9 : ∀ (s : Str) (n k : Nat), n + 1 ≤ 10 ^ k → W4 n s + 1 ≤ 10 ^ (k + s.length)
  | [], n, k, h => by
    have : ((n + 1 : Nat) : Int) ≤ ((10 ^ k : Nat) : Int) := Int.ofNat_le.2 h
    simp only [W4, N1, Nat.add_zero]
    push_cast at this ⊢; exact this
  | b :: s, n, k, h => by
    unfold W4
    split
    · rename_i hd
      have h2 : b.toNat - 48 ≤ 9 := by unfold Ae0 at hd; simp at hd; omega
      have := rd_up9 s (10 * n + (b.toNat - 48)) (k + 1) (by rw [Nat.pow_succ]; omega)
      rw [H6, show k + (s.length + 1) = k + 1 + s.length by omega]; exact this
    · have : (0 : Int) ≤ 10 ^ (k + (b :: s).length) := Int.pow_nonneg D0
      omega
theorem Bw0 (s : Str) : l1R s ≤ 999999 := by
  unfold l1R; split
  · omega
  · rename_i h
    have hl : s.length ≤ 6 := by
      unfold Aa8 within at h
      simp only [Bool.or_eq_true, not_or] at h
      have := h.1; simp at this; omega
    have h1 := rd_up9 s 0 0 D0
    have h2 : (10 : Int) ^ (0 + s.length) ≤ 10 ^ 6 := by
      have := Nat.pow_le_pow_right (n := 10) D0 (show 0 + s.length ≤ 6 by omega)
      exact_mod_cast this
    have h3 : (10 : Int) ^ 6 = 1000000 := by decide
    omega
theorem Af7 (s : Str) (hs : s.length ≤ 1048576) : B9 Tryz.prog 153 [AV.str s] (AV.tup [AV.int (l5N s).1, AV.bool (l5N s).2]) := by
 have hlo1 := Bl0 s
 have hlo2 := Bl0 (s.drop 1)
 have hup1 := Bw0 s
 have hup2 := Bw0 (s.drop 1)
 have hd1 : (s.drop 1).length ≤ 1048576 := by rw [List.length_drop]; omega
 obtain ⟨b0, hb0⟩ := AL6 s 0
 have hneg : (decide ((0 : Int) < (s.length : Int)) && ((b0.toNat : Int) == 45)) = decide (s.head? = some 45) := by
  cases s with
  | nil => rfl
  | cons c r =>
   have e := hb0 U2
   simp at e; subst e
   rw [Bool.eq_iff_iff]
   simp only [H6, Bool.and_eq_true, decide_eq_true_eq, beq_iff_eq, List.head?_cons, Option.some.injEq]
   constructor
   ·intro h; exact UInt8.toNat_inj.1 (by have := h.2; simp; omega)
   intro h; subst h; exact ⟨by omega, rfl⟩
 refine B7 Tryz.func153 rfl Tryz.ntmps153 rfl ?_
 refine R12 ?_
 refine L3 rfl (fun hc => y5 rfl L8 (B1 rfl hc) D8 qz8 (hb0 Ai6)) ?_
 refine R5 ?_
 rw [hneg]
 refine R9 ?_
 refine A8 (A0 rfl) ?_ ?_
 ·intro h16
  have hh : s.head? = some 45 := of_decide_eq_true h16
  have hbody : (if s.head? = some 45 then s.drop 1 else s) = s.drop 1 := if_pos hh
  have hl1 : 1 ≤ s.length := by (cases s with | nil => cases hh | cons c r => simp)
  refine R2 ?_
  refine A4 rfl (w_ssl_lo rfl L8 (A0 rfl) D8 qz4 qz4) ?_
  refine R5 ?_
  refine A4 rfl (B2 rfl Tryz.call171 rfl (Au6 _ (by first | exact hs | exact hd1)) (A1 (A0 rfl) A7)) ?_
  refine R15 ?_
  refine A8 (A0 rfl) ?_ ?_
  ·intro h29
   have he : l5N s = (0, false) := by (unfold l5N; rw [hbody]; exact if_pos h29)
   rw [he]
   refine R6 ?_
   exact W6 rfl D0 (B6 (A6 rfl AU8) (B6 (A6 rfl AU8) E8))
  intro h29
  have he : l5N s = if s.head? = some 45 then (-(l1R (s.drop 1)), true) else (l1R s, true) := by (unfold l5N; rw [hbody]; exact if_neg (fun e => Bool.noConfusion (e.symm.trans h29)))
  rw [he]
  refine R6 ?_
  refine A8 (A0 rfl) ?_ ?_
  ·intro h30
   rw [if_pos (of_decide_eq_true h30)]
   refine R3 ?_
   refine A4 rfl (w_neg rfl (A0 rfl)) ?_
   refine R4 ?_
   exact W6 rfl D0 (B6 (A6 rfl AU8) (B6 (A6 rfl AU8) E8))
  intro h30
  rw [if_neg (of_decide_eq_false h30)]
  refine R8 ?_
  exact W6 rfl D0 (B6 (A6 rfl AU8) (B6 (A6 rfl AU8) E8))
 intro h16
 have hh : ¬ s.head? = some 45 := of_decide_eq_false h16
 have hbody : (if s.head? = some 45 then s.drop 1 else s) = s := if_neg hh
 refine R4 ?_
 refine A4 rfl (B2 rfl Tryz.call171 rfl (Au6 _ (by first | exact hs | exact hd1)) (A1 (A0 rfl) A7)) ?_
 refine R15 ?_
 refine A8 (A0 rfl) ?_ ?_
 ·intro h29
  have he : l5N s = (0, false) := by (unfold l5N; rw [hbody]; exact if_pos h29)
  rw [he]
  refine R6 ?_
  exact W6 rfl D0 (B6 (A6 rfl AU8) (B6 (A6 rfl AU8) E8))
 intro h29
 have he : l5N s = if s.head? = some 45 then (-(l1R (s.drop 1)), true) else (l1R s, true) := by (unfold l5N; rw [hbody]; exact if_neg (fun e => Bool.noConfusion (e.symm.trans h29)))
 rw [he]
 refine R6 ?_
 refine A8 (A0 rfl) ?_ ?_
 ·intro h30
  rw [if_pos (of_decide_eq_true h30)]
  refine R3 ?_
  refine A4 rfl (w_neg rfl (A0 rfl)) ?_
  refine R4 ?_
  exact W6 rfl D0 (B6 (A6 rfl AU8) (B6 (A6 rfl AU8) E8))
 intro h30
 rw [if_neg (of_decide_eq_false h30)]
 refine R8 ?_
 exact W6 rfl D0 (B6 (A6 rfl AU8) (B6 (A6 rfl AU8) E8))
theorem CC1 (o : TOp) (hs : o.size ≤ 1048576) : B9 Tryz.prog 176 [AV.agg o.cs] (AV.bool (l5Op o)) := by
 have hs' := hs; unfold TOp.size at hs'
 refine B7 Tryz.func176 rfl Tryz.ntmps176 rfl ?_
 refine R3 ?_
 intro b1
 refine R7 ?_
 refine A4 rfl (B2 rfl Tryz.call99 rfl (AA9 _ qz8) (A1 (A0 rfl) A7)) ?_
 refine R2 ?_
 refine A8 (A0 rfl) ?_ ?_
 ·intro h6
  refine R5 ?_
  exact D5 rfl (A6 rfl AY1)
 intro h6
 refine R14 ?_
 refine A8 (A0 rfl) ?_ ?_
 ·intro h9
  have k9 := D2 h9; try simp only [A5] at k9
  refine R1 ?_
  refine A8 (A0 rfl) ?_ ?_
  ·intro h9
   have k9 := D2 h9; try simp only [A5] at k9
   refine R4 ?_
   refine A4 rfl (B2 rfl Tryz.call100 rfl (AW3 _ qz8) (A1 (A0 rfl) A7)) ?_
   refine R8 ?_
   exact D5 rfl (A6 rfl AY1)
  intro h9
  have k9 := D6 h9; try simp only [A5] at k9
  refine R6 ?_
  refine A8 (A0 rfl) ?_ ?_
  ·intro h20
   have k20 := D2 h20; try simp only [A5] at k20
   refine R1 ?_
   refine A8 (A0 rfl) ?_ ?_
   ·intro h20
    have k20 := D2 h20; try simp only [A5] at k20
    refine R4 ?_
    refine A4 rfl (AH9 rfl (A0 rfl) (L4 (l := []) rfl)) ?_
    refine R3 ?_
    refine L3 rfl (fun hc => B2 rfl Tryz.call30 rfl (N5 _ _ _) (A1 (B1 rfl hc) (A1 D8 (A1 D8 A7)))) ?_
    refine R4 ?_
    exact D5 rfl (A6 rfl AY1)
   intro h20
   have k20 := D6 h20; try simp only [A5] at k20
   refine R19 ?_
   refine L3 rfl (fun hc => AH9 rfl (B1 rfl hc) (L4 (l := []) rfl)) ?_
   refine R9 ?_
   exact D5 rfl (A6 rfl AY1)
  intro h20
  have k20 := D6 h20; try simp only [A5] at k20
  refine R4 ?_
  refine A8 (A0 rfl) ?_ ?_
  ·intro h20
   have k20 := D2 h20; try simp only [A5] at k20
   refine R4 ?_
   refine A4 rfl (AH9 rfl (A0 rfl) (L4 (l := []) rfl)) ?_
   refine R3 ?_
   refine L3 rfl (fun hc => B2 rfl Tryz.call30 rfl (N5 _ _ _) (A1 (B1 rfl hc) (A1 D8 (A1 D8 A7)))) ?_
   refine R4 ?_
   exact D5 rfl (A6 rfl AY1)
  intro h20
  have k20 := D6 h20; try simp only [A5] at k20
  refine R19 ?_
  refine L3 rfl (fun hc => AH9 rfl (B1 rfl hc) (L4 (l := []) rfl)) ?_
  refine R9 ?_
  exact D5 rfl (A6 rfl AY1)
 intro h9
 have k9 := D6 h9; try simp only [A5] at k9
 refine R4 ?_
 refine A8 (A0 rfl) ?_ ?_
 ·intro h9
  have k9 := D2 h9; try simp only [A5] at k9
  refine R4 ?_
  refine A4 rfl (B2 rfl Tryz.call100 rfl (AW3 _ qz8) (A1 (A0 rfl) A7)) ?_
  refine R8 ?_
  exact D5 rfl (A6 rfl AY1)
 intro h9
 have k9 := D6 h9; try simp only [A5] at k9
 refine R6 ?_
 refine A8 (A0 rfl) ?_ ?_
 ·intro h20
  have k20 := D2 h20; try simp only [A5] at k20
  refine R1 ?_
  refine A8 (A0 rfl) ?_ ?_
  ·intro h20
   have k20 := D2 h20; try simp only [A5] at k20
   refine R4 ?_
   refine A4 rfl (AH9 rfl (A0 rfl) (L4 (l := []) rfl)) ?_
   refine R3 ?_
   refine L3 rfl (fun hc => B2 rfl Tryz.call30 rfl (N5 _ _ _) (A1 (B1 rfl hc) (A1 D8 (A1 D8 A7)))) ?_
   refine R4 ?_
   exact D5 rfl (A6 rfl AY1)
  intro h20
  have k20 := D6 h20; try simp only [A5] at k20
  refine R19 ?_
  refine L3 rfl (fun hc => AH9 rfl (B1 rfl hc) (L4 (l := []) rfl)) ?_
  refine R9 ?_
  exact D5 rfl (A6 rfl AY1)
 intro h20
 have k20 := D6 h20; try simp only [A5] at k20
 refine R4 ?_
 refine A8 (A0 rfl) ?_ ?_
 ·intro h20
  have k20 := D2 h20; try simp only [A5] at k20
  refine R4 ?_
  refine A4 rfl (AH9 rfl (A0 rfl) (L4 (l := []) rfl)) ?_
  refine R3 ?_
  refine L3 rfl (fun hc => B2 rfl Tryz.call30 rfl (N5 _ _ _) (A1 (B1 rfl hc) (A1 D8 (A1 D8 A7)))) ?_
  refine R4 ?_
  exact D5 rfl (A6 rfl AY1)
 intro h20
 have k20 := D6 h20; try simp only [A5] at k20
 refine R19 ?_
 refine L3 rfl (fun hc => AH9 rfl (B1 rfl hc) (L4 (l := []) rfl)) ?_
 refine R9 ?_
 exact D5 rfl (A6 rfl AY1)
theorem Bl1 (l : List TOp) (hs : sizeL TOp.size l ≤ 1048576) : B9 Tryz.prog 161 [AV.list 4 (l.map TOp.cs)] (AV.bool (l5Good l)) := by
 refine B7 Tryz.func161 rfl Tryz.ntmps161 rfl ?_
 refine S0 (t := 0) rfl fun hl => ?_
 try simp only [A5] at hl
 refine R12 ?_
 refine E5 [(0, _), (5, _), (6, _)] _ (fun (i : Nat) => i ≤ l.length ∧ l.all l5Op = (l.drop i).all l5Op) (fun (i : Nat) => []) (fun (i : Nat) => [(7, AV.int i)]) (fun (i : Nat) => l.length - i) (0) ?_ (F2 ⟨rfl, rfl, rfl, rfl, trivial⟩) ?_
 ·exact ⟨Nat.zero_le _, rfl⟩
 intro i hinv
 refine R5 ?_
 refine A8 (A0 rfl) ?_ ?_
 ·intro h8
  have k8 := of_decide_eq_true h8; try simp only [A5] at k8
  have hlt : i < l.length := by omega
  obtain ⟨x, hx⟩ := get_some hlt
  have hsx : x.size ≤ 1048576 := Nat.le_trans (X1 hx) hs
  refine R5 ?_
  refine A4 rfl (C7 rfl Q2 S9 (A0 rfl) (A0 rfl) hx qz4) ?_
  refine R2 ?_
  intro b4
  refine R5 ?_
  refine A4 rfl (B2 rfl Tryz.call176 rfl (CC1 _ T0) (A1 (A0 rfl) A7)) ?_
  refine R2 ?_
  refine A8 (A0 rfl) ?_ ?_
  ·intro h13
   have hno : l5Good l = false := by (unfold l5Good; rw [hinv.2, drop_some hx, List.all_cons]; simp_all)
   rw [hno]
   refine R5 ?_
   exact D5 rfl (A6 rfl (by first | rfl | exact congrArg AV.bool (by unfold l5Good; rw [hall]; simp)))
  intro h13
  refine R5 ?_
  refine F3 i (i + 1) ?_ ?_ (O3 1 ⟨rfl, rfl, rfl, rfl, trivial⟩)
  ·exact ⟨by omega, by rw [hinv.2, drop_some hx, List.all_cons]; simp_all⟩
  omega
 intro h8
 have k8 := of_decide_eq_false h8; try simp only [A5] at k8
 have hge : l.length ≤ i := by omega
 have hall : l.all l5Op = true := by (rw [hinv.2, List.drop_eq_nil_of_le hge]; rfl)
 refine R9 ?_
 exact D5 rfl (A6 rfl (by first | rfl | exact congrArg AV.bool (by unfold l5Good; rw [hall]; simp)))
end Go.Proofs.YtcfkbhnpfjjmjaaGreat
namespace Go.M
open Go.AV
theorem getD_row {l : List Str} {i : Nat} (h : i < l.length) : (l.map fun s => [AV.str s])[((i : Nat) : Int).toNat]? = some [AV.str (l.getD i [])] := by
  rw [Int.toNat_natCast, List.getElem?_map, List.getElem?_eq_getElem h, Option.map_some, List.getD_eq_getElem?_getD, List.getElem?_eq_getElem h]; rfl
theorem Bl2 {l : List Str} {i : Nat} (h : i < l.length) : l[i]? = some (l.getD i []) := by
  rw [List.getElem?_eq_getElem h, List.getD_eq_getElem?_getD, List.getElem?_eq_getElem h]; rfl
theorem BX7 {l : List Str} {k : Str} {i : Nat} (hi : i ≤ partW l k) (h : (decide ((i : Int) < (l.length : Int)) && leS (l.getD i []) k) = true) : i < l.length ∧ i + 1 ≤ partW l k := by
  simp only [Bool.and_eq_true, decide_eq_true_eq] at h
  have hl : i < l.length := by omega
  refine ⟨hl, ?_⟩
  rcases Nat.lt_or_ge i (partW l k) with h1 | h1
  · exact h1
  · have := (BE5 (k := k) (Bl2 hl)).2 qz8
    rw [h.2] at this; cases this
theorem CJ4 {l : List Str} {k : Str} {i : Nat} (hi : i ≤ partW l k) (h : (decide ((i : Int) < (l.length : Int)) && leS (l.getD i []) k) = false) : i = partW l k := by
  have hle := Am9 l k
  rcases Nat.lt_or_ge i (partW l k) with h1 | h1
  · have hl : i < l.length := by omega
    rw [(BE5 (k := k) (Bl2 hl)).1 h1, decide_eq_true qz8] at h; cases h
  · omega
end Go.M
namespace Go.Proofs.YtcfkbhnpfjjmjaaGreat
open Go Go.AV Go.M
attribute [local irreducible] OpW OpA OpS AWP B9 J5 C8 OpE RetOk H1 I9 Le Ev F6 J9 V9 Int.tmod Int.tdiv IntKind.wrap bandI
theorem Bl3 (l : List Str) (hs : ∀ k ∈ l, k.length ≤ 4611686018427387904) : B9 Tryz.prog 160 [strs l] (AV.bool (l15Cuts l)) := by
 refine B7 Tryz.func160 rfl Tryz.ntmps160 rfl ?_
 refine S0 (t := 0) rfl fun hl => ?_
 try simp only [A5] at hl
 refine R12 ?_
 refine E5 [(0, _), (5, _), (6, _)] _ (fun (i : Nat) => i ≤ l.length ∧ (l.all l3Key && adj Op.bytesLess l) = ((l.drop i).all l3Key && adj Op.bytesLess (l.drop (i - 1)))) (fun (i : Nat) => []) (fun (i : Nat) => [(7, AV.int i)]) (fun (i : Nat) => l.length - i) (0) ?_ (F2 ⟨rfl, rfl, rfl, rfl, trivial⟩) ?_
 ·exact ⟨Nat.zero_le _, rfl⟩
 intro i hinv
 refine R5 ?_
 refine A8 (A0 rfl) ?_ ?_
 ·intro h8
  have k8 := of_decide_eq_true h8; try simp only [A5] at k8
  have hlt : i < l.length := by omega
  obtain ⟨x, hx⟩ := get_some hlt
  obtain ⟨y, hy⟩ := get_some (show i - 1 < l.length by omega)
  have hsx := hs x (C6 hx)
  refine R6 ?_
  refine A4 rfl (AA6 rfl F7 K1 (A0 rfl) (A0 rfl) qz8 qz135) ?_
  refine R7 ?_
  refine A4 rfl (B2 rfl Tryz.call99 rfl (AA9 _ qz8) (A1 (A0 rfl) A7)) ?_
  refine R8 ?_
  refine f5 rfl rfl (V1 rfl rfl rfl) (fun hc => AA6 rfl F7 K1 (B1 rfl hc) (B1 rfl hc) qz186 qz89) ?_
  refine R2 ?_
  refine f5 rfl rfl (V1 rfl rfl rfl) (fun hc => Aq4 rfl (B1 rfl hc) (B1 rfl hc)) ?_
  refine R3 ?_
  refine A8 (A0 rfl) ?_ ?_
  ·intro h27
   have hfin : (l.all l3Key && adj Op.bytesLess l) = false := by rw [hinv.2, drop_some hx, List.all_cons]; cases hg : l3Key x with | false => simp | true => (simp only [hg, Bool.not_true, Bool.false_or, Bool.and_eq_true, decide_eq_true_eq, Bool.not_eq_true'] at h27; rw [AK4 hx hy qz8 h27.2]; simp)
   refine R5 ?_
   exact D5 rfl (A6 rfl qz130)
  intro h27
  refine R5 ?_
  refine F3 i (i + 1) ?_ ?_ (F2 ⟨rfl, rfl, rfl, rfl, trivial⟩)
  ·exact ⟨by omega, by rw [hinv.2, drop_some hx, List.all_cons, AK3 hx hy (fun h0 => by simp_all), show l3Key x = true by simp_all]; simp⟩
  omega
 intro h8
 have k8 := of_decide_eq_false h8; try simp only [A5] at k8
 have hge : l.length ≤ i := by omega
 refine R9 ?_
 exact D5 rfl (A6 rfl qz130)
theorem AF3 (l : List Str) (k : Str) : B9 Tryz.prog 170 [strs l, AV.str k] (AV.int (partW l k)) := by
 refine B7 Tryz.func170 rfl Tryz.ntmps170 rfl ?_
 refine S0 (t := 0) rfl fun hl => ?_
 try simp only [A5] at hl
 refine R10 ?_
 have hle := Am9 l k
 refine E5 [(0, _), (1, _), (4, _)] _ (fun (i : Nat) => i ≤ partW l k) (fun (i : Nat) => []) (fun (i : Nat) => [(5, AV.int i)]) (fun (i : Nat) => l.length - i) (0) ?_ (F2 ⟨rfl, rfl, rfl, rfl, trivial⟩) ?_
 ·exact Nat.zero_le _
 intro i hinv
 refine R10 ?_
 refine L3 rfl (fun hc => AA6 rfl F7 K1 (B1 rfl hc) (B1 rfl hc) qz8 (getD_row (by have h9 := of_decide_eq_true hc; simp only [A5] at h9; omega))) ?_
 refine R2 ?_
 refine L3 rfl (fun hc => w_sleq rfl (B1 rfl hc) (B1 rfl hc)) ?_
 refine R2 ?_
 refine A8 (A0 rfl) ?_ ?_
 ·intro h17
  have h17m : (decide ((i : Int) < (l.length : Int)) && leS (l.getD i []) k) = true := by (have h9 := h17; rw [A5] at h9; exact h9)
  have hlt := (BX7 hinv h17m).1
  refine R7 ?_
  refine AD6 ?_
  refine F3 i (i + 1) ?_ ?_ (F2 ⟨rfl, rfl, rfl, rfl, trivial⟩)
  ·exact (BX7 hinv h17m).2
  omega
 intro h17
 have h17m : (decide ((i : Int) < (l.length : Int)) && leS (l.getD i []) k) = false := by (have h9 := h17; rw [A5] at h9; exact h9)
 rw [CJ4 hinv h17m]
 refine R7 ?_
 exact D5 rfl (A6 rfl B0)
end Go.Proofs.YtcfkbhnpfjjmjaaGreat
namespace Go.M
open Go.AV
def putIb : List Int → Int → List Int
  | [], n => [n]
  | x :: l, n => if x < n then x :: putIb l n else if x = n then x :: l else n :: x :: l
theorem BX8 {l : List Int} {n x : Int} : x ∈ putIb l n ↔ x = n ∨ x ∈ l := by
  induction l with
  | nil => simp [putIb]
  | cons y l ih =>
    unfold putIb
    split
    · simp only [List.mem_cons, ih]; constructor <;> rintro (h | h | h) <;> simp [h]
    · split
      · rename_i h; subst h; simp
      · simp
theorem Bl4 {l : List Int} {n : Int} (h : l.Pairwise (· < ·)) : (putIb l n).Pairwise (· < ·) := by
  induction l with
  | nil => simp [putIb]
  | cons y l ih =>
    obtain ⟨h1, h2⟩ := List.pairwise_cons.1 h
    unfold putIb
    split
    · rename_i hy
      refine List.pairwise_cons.2 ⟨fun z hz => ?_, ih h2⟩
      rcases BX8.1 hz with rfl | hz
      · exact hy
      · exact h1 z hz
    · split
      · exact h
      · rename_i h3 h4
        refine List.pairwise_cons.2 ⟨fun z hz => ?_, h⟩
        rcases List.mem_cons.1 hz with rfl | hz
        · omega
        · have := h1 z hz; omega
def partsL (cuts ks : List Str) : List Int := ks.foldl (fun a k => putIb a (partW cuts k)) []
theorem Af8 {cuts : List Str} : ∀ {ks : List Str} {a : List Int}, a.Pairwise (· < ·) → (ks.foldl (fun a k => putIb a (partW cuts k)) a).Pairwise (· < ·) ∧ ∀ z, z ∈ ks.foldl (fun a k => putIb a (partW cuts k)) a ↔ z ∈ a ∨ ∃ k ∈ ks, z = (partW cuts k : Int)
  | [], a, h => ⟨h, fun z => by simp⟩
  | k :: ks, a, h => by
    obtain ⟨h1, h2⟩ := Af8 (cuts := cuts) (ks := ks) (Bl4 (n := (partW cuts k : Int)) h)
    refine ⟨h1, fun z => ?_⟩
    show z ∈ ks.foldl (fun a k => putIb a (partW cuts k)) (putIb a (partW cuts k)) ↔ _
    rw [h2, BX8]
    simp only [List.mem_cons, exists_eq_or_imp]
    constructor
    · rintro ((h | h) | h)
      · exact .inr (.inl h)
      · exact .inl h
      · exact .inr (.inr h)
    · rintro (h | h | h)
      · exact .inl (.inr h)
      · exact .inl (.inl h)
      · exact .inr h
end Go.M
