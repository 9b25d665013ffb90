/- Texts of the claim, part 8. -/
import Derived.Test.YtcfkbhnpfjjmjaaGreatZSwaps7
set_option linter.unusedVariables false
set_option linter.unusedSimpArgs false
set_option maxRecDepth 100000
set_option maxHeartbeats 4000000
namespace Go.M
open Go.AV
theorem most9 (n : Nat) (h : n ≤ 9) : 1 ≤ X2 1 (n : Int) ∧ X2 1 (n : Int) ≤ 9 := by unfold X2; split <;> omega
theorem putS_pos (s : Str) (l : List Str) : 1 ≤ (putS l s).length := by
  cases l with
  | nil => simp [putS]
  | cons x l => unfold putS; split <;> (try split) <;> simp
def Bn5 (p : List TOp) : Prop := (goodOps p = true ∧ ∀ o ∈ p, o.Key ∈ keyD) ∧ 1 ≤ p.length
def BS0 (l : List Str) : Prop := (1 ≤ l.length ∧ l.length ≤ 8) ∧ n7 l ∧ ∀ k ∈ l, k ∈ keyD
end Go.M
namespace Go.Proofs.YtcfkbhnpfjjmjaaGreat
open Go Go.AV Go.M
attribute [local irreducible] OpW OpA OpS AWP B9 J5 C8 OpE RetOk H1 I9 Le Ev F6 J9 V9 Int.tmod Int.tdiv IntKind.wrap bandI
theorem BL1 (b : Nat) (code : List Int) (hcode : Y4 code) (c : N0) (w : TWorld) (hw : WI w) (hp : c.p ≤ 5000000) : C8 Tryz.prog 145 [AV.ptr b 0, AV.agg w.cs] [.box b 55 (Q5 code c)] (fun x : N0 × S5 => x.1.p ≤ c.p + 6 ∧ Y3 x.2) (fun x => [.box b 55 (Q5 code x.1)]) (fun x => AV.agg x.2.cs) := by
 have hng := hw.n
 have hcl := hw.clocks.1
 have htl := hw.txns.1
 have hll := hw.looks.1
 have hm1 := most9 w.Txns.length qz8
 have hm2 := most9 w.Looks.length qz8
 refine C3 Tryz.func145 rfl Tryz.ntmps145 rfl ?_
 refine R3 ?_
 intro b3
 refine R1 ?_
 intro b4
 refine R12 ?_
 refine E4 [2] rfl rfl rfl rfl Tryz.call22 rfl (L1 _ _ hcode _ _ AC8 qz8) (A1 (A0 rfl) (A1 D8 A7)) rfl ?_
 intro x10 ok10
 refine R7 ?_
 refine A8 (A0 rfl) ?_ ?_
 ·intro h11
  have k11 := D2 h11; try simp only [A5] at k11
  refine R4 ?_
  refine E4 [0] rfl rfl rfl rfl Tryz.call22 rfl (L1 _ _ hcode _ _ AC8 qz8) (A1 (A0 rfl) (A1 (A0 rfl) A7)) rfl ?_
  intro x15 ok15
  refine R1 ?_
  refine E4 [0] rfl rfl rfl rfl Tryz.call22 rfl (L1 _ _ hcode _ _ AC8 qz8) (A1 (A0 rfl) (A1 D8 A7)) rfl ?_
  intro x17 ok17
  refine R4 ?_
  (refine G1 [0] ((x17.1, ⟨2, x15.2, x17.2⟩)) ?_ rfl V8 (E6 rfl (G7 (ys := _) 1 rfl rfl c4 Y0 rfl)); (simp only [A5] at *; unfold Y3; dsimp only; exact ⟨by omega, ⟨⟨by omega, by omega⟩, by omega, by omega⟩⟩))
 intro h11
 have k11 := D6 h11; try simp only [A5] at k11
 refine R5 ?_
 refine A8 (A0 rfl) ?_ ?_
 ·intro h19
  have k19 := D2 h19; try simp only [A5] at k19
  refine R4 ?_
  refine E4 [0] rfl rfl rfl rfl Tryz.call156 rfl (m2 _ _ hcode _ ([(3), (3), (4)] : List Int) D0 qz8) (A1 (A0 rfl) (A1 (A0 rfl) A7)) rfl ?_
  intro x23 ok23
  refine R2 ?_
  refine E4 [0] rfl rfl rfl rfl Tryz.call22 rfl (L1 _ _ hcode _ _ AC8 qz8) (A1 (A0 rfl) (A1 (A0 rfl) A7)) rfl ?_
  intro x26 ok26
  refine R4 ?_
  (refine G1 [0] ((x26.1, ⟨x23.2, x26.2, 0⟩)) ?_ rfl V8 (E6 rfl (G7 (ys := _) 1 rfl rfl c4 Y0 rfl)); (simp only [A5] at *; unfold Y3; dsimp only; exact ⟨by omega, ⟨⟨by omega, by omega⟩, by omega, by omega⟩⟩))
 intro h19
 have k19 := D6 h19; try simp only [A5] at k19
 refine R5 ?_
 refine A8 (A0 rfl) ?_ ?_
 ·intro h28
  have k28 := D2 h28; try simp only [A5] at k28
  refine R4 ?_
  refine E4 [0] rfl rfl rfl rfl Tryz.call156 rfl (m2 _ _ hcode _ ([(4), (5)] : List Int) D0 qz8) (A1 (A0 rfl) (A1 (A0 rfl) A7)) rfl ?_
  intro x32 ok32
  refine R2 ?_
  refine E4 [0] rfl rfl rfl rfl Tryz.call22 rfl (L1 _ _ hcode _ _ AC8 qz8) (A1 (A0 rfl) (A1 (A0 rfl) A7)) rfl ?_
  intro x35 ok35
  refine R4 ?_
  (refine G1 [0] ((x35.1, ⟨x32.2, x35.2, 0⟩)) ?_ rfl V8 (E6 rfl (G7 (ys := _) 1 rfl rfl c4 Y0 rfl)); (simp only [A5] at *; unfold Y3; dsimp only; exact ⟨by omega, ⟨⟨by omega, by omega⟩, by omega, by omega⟩⟩))
 intro h28
 have k28 := D6 h28; try simp only [A5] at k28
 refine R5 ?_
 refine A8 (A0 rfl) ?_ ?_
 ·intro h37
  have k37 := D2 h37; try simp only [A5] at k37
  refine R1 ?_
  refine AWP.le (C1 [2] rfl) ?_
  refine M7 _ [(0, false), (1, false), (3, false), (4, false), (5, false), (6, false), (2, true), (7, true)] F1 F1 rfl (P1 1) ?_
  refine R6 ?_
  refine S1 rfl rfl rfl (P2 [1] rfl Tryz.call156 rfl (m2 _ _ hcode _ ([(5), (6)] : List Int) D0 qz8) (A1 (A0 rfl) (A1 (A0 rfl) A7)) rfl) (fun a _ => qz3) ?_
  intro x41 ok41
  refine S1 rfl rfl rfl (P2 [2] rfl Tryz.call22 rfl (L1 _ _ hcode _ _ AC8 qz8) (A1 (A0 rfl) (A1 (A0 rfl) A7)) rfl) (fun a _ => qz3) ?_
  intro x46 ok46
  refine R5 ?_
  (refine G1 [2] ((x46.1, ⟨x41.2, x46.2, 0⟩)) ?_ rfl V8 (E6 rfl (G7 (ys := _) 1 rfl rfl c4 Y0 rfl)); (simp only [A5] at *; unfold Y3; dsimp only; exact ⟨by omega, ⟨⟨by omega, by omega⟩, by omega, by omega⟩⟩))
 intro h37
 have k37 := D6 h37; try simp only [A5] at k37
 refine R6 ?_
 refine A8 (A0 rfl) ?_ ?_
 ·intro h48
  have k48 := D2 h48; try simp only [A5] at k48
  refine R1 ?_
  refine A8 (A0 rfl) ?_ ?_
  ·intro h48
   have k48 := D2 h48; try simp only [A5] at k48
   refine R3 ?_
   refine E4 [0] rfl rfl rfl rfl Tryz.call22 rfl (L1 _ _ hcode _ _ AC8 qz8) (A1 (A0 rfl) (A1 D8 A7)) rfl ?_
   intro x52 ok52
   refine R5 ?_
   (refine G1 [0] ((x52.1, ⟨1, 1 + x52.2, 0⟩)) ?_ rfl V8 (E6 rfl (G7 (ys := _) 1 rfl rfl c4 Y0 rfl)); (simp only [A5] at *; unfold Y3; dsimp only; exact ⟨by omega, ⟨⟨by omega, by omega⟩, by omega, by omega⟩⟩))
  intro hz9; rw [h48] at hz9; cases hz9
 intro h48
 have k48 := D6 h48; try simp only [A5] at k48
 refine R4 ?_
 refine A8 (A0 rfl) ?_ ?_
 ·intro h48
  have k48 := D2 h48; try simp only [A5] at k48
  refine R3 ?_
  refine E4 [0] rfl rfl rfl rfl Tryz.call22 rfl (L1 _ _ hcode _ _ AC8 qz8) (A1 (A0 rfl) (A1 D8 A7)) rfl ?_
  intro x52 ok52
  refine R5 ?_
  (refine G1 [0] ((x52.1, ⟨1, 1 + x52.2, 0⟩)) ?_ rfl V8 (E6 rfl (G7 (ys := _) 1 rfl rfl c4 Y0 rfl)); (simp only [A5] at *; unfold Y3; dsimp only; exact ⟨by omega, ⟨⟨by omega, by omega⟩, by omega, by omega⟩⟩))
 intro h48
 have k48 := D6 h48; try simp only [A5] at k48
 refine R5 ?_
 refine A8 (A0 rfl) ?_ ?_
 ·intro h55
  have k55 := D2 h55; try simp only [A5] at k55
  refine R1 ?_
  refine AWP.le (C1 [2] rfl) ?_
  refine M7 _ [(0, false), (1, false), (3, false), (4, false), (5, false), (6, false), (2, true), (7, false), (8, true)] F1 F1 rfl (P1 1) ?_
  refine R6 ?_
  refine S1 rfl rfl rfl (P2 [1] rfl Tryz.call156 rfl (m2 _ _ hcode _ ([(8), (9), (9), (9)] : List Int) D0 qz8) (A1 (A0 rfl) (A1 (A0 rfl) A7)) rfl) (fun a _ => qz3) ?_
  intro x59 ok59
  refine M8 rfl rfl rfl (fun ext => B2 rfl Tryz.call23 rfl (Z1 _ _) (A1 D8 (A1 (A0 rfl) A7))) ?_
  refine S1 rfl rfl rfl (P2 [2] rfl Tryz.call22 rfl (L1 _ _ hcode _ _ AC8 qz8) (A1 (A0 rfl) (A1 (A0 rfl) A7)) rfl) (fun a _ => qz3) ?_
  intro x65 ok65
  refine R5 ?_
  (refine G1 [2] ((x65.1, ⟨x59.2, x65.2, 0⟩)) ?_ rfl V8 (E6 rfl (G7 (ys := _) 1 rfl rfl c4 Y0 rfl)); (simp only [A5] at *; unfold Y3; dsimp only; exact ⟨by omega, ⟨⟨by omega, by omega⟩, by omega, by omega⟩⟩))
 intro h55
 have k55 := D6 h55; try simp only [A5] at k55
 refine R6 ?_
 refine A8 (A0 rfl) ?_ ?_
 ·intro h67
  have k67 := D2 h67; try simp only [A5] at k67
  refine R1 ?_
  refine A8 (A0 rfl) ?_ ?_
  ·intro h67
   have k67 := D2 h67; try simp only [A5] at k67
   refine R6 ?_
   refine A4 rfl (B2 rfl Tryz.call23 rfl (Z1 _ _) (A1 D8 (A1 (A0 rfl) A7))) ?_
   refine E4 [0] rfl rfl rfl rfl Tryz.call22 rfl (L1 _ _ hcode _ _ AC8 qz8) (A1 (A0 rfl) (A1 (A0 rfl) A7)) rfl ?_
   intro x75 ok75
   refine R4 ?_
   (refine G1 [0] ((x75.1, ⟨10, x75.2, 0⟩)) ?_ rfl V8 (E6 rfl (G7 (ys := _) 1 rfl rfl c4 Y0 rfl)); (simp only [A5] at *; unfold Y3; dsimp only; exact ⟨by omega, ⟨⟨by omega, by omega⟩, by omega, by omega⟩⟩))
  intro hz9; rw [h67] at hz9; cases hz9
 intro h67
 have k67 := D6 h67; try simp only [A5] at k67
 refine R4 ?_
 refine A8 (A0 rfl) ?_ ?_
 ·intro h67
  have k67 := D2 h67; try simp only [A5] at k67
  refine R6 ?_
  refine A4 rfl (B2 rfl Tryz.call23 rfl (Z1 _ _) (A1 D8 (A1 (A0 rfl) A7))) ?_
  refine E4 [0] rfl rfl rfl rfl Tryz.call22 rfl (L1 _ _ hcode _ _ AC8 qz8) (A1 (A0 rfl) (A1 (A0 rfl) A7)) rfl ?_
  intro x75 ok75
  refine R4 ?_
  (refine G1 [0] ((x75.1, ⟨10, x75.2, 0⟩)) ?_ rfl V8 (E6 rfl (G7 (ys := _) 1 rfl rfl c4 Y0 rfl)); (simp only [A5] at *; unfold Y3; dsimp only; exact ⟨by omega, ⟨⟨by omega, by omega⟩, by omega, by omega⟩⟩))
 intro h67
 have k67 := D6 h67; try simp only [A5] at k67
 refine R7 ?_
 refine A4 rfl (B2 rfl Tryz.call23 rfl (Z1 _ _) (A1 D8 (A1 (A0 rfl) A7))) ?_
 refine E4 [0] rfl rfl rfl rfl Tryz.call22 rfl (L1 _ _ hcode _ _ AC8 qz8) (A1 (A0 rfl) (A1 (A0 rfl) A7)) rfl ?_
 intro x82 ok82
 refine R4 ?_
 (refine G1 [0] ((x82.1, ⟨7, x82.2, 0⟩)) ?_ rfl V8 (E6 rfl (G7 (ys := _) 1 rfl rfl c4 Y0 rfl)); (simp only [A5] at *; unfold Y3; dsimp only; exact ⟨by omega, ⟨⟨by omega, by omega⟩, by omega, by omega⟩⟩))
theorem Bs5 (b : Nat) (code : List Int) (hcode : Y4 code) (c : N0) (w : TWorld) (most : Int) (hw : WI w) (hm : 0 ≤ most ∧ most ≤ 100) (hp : c.p ≤ 4000000) : C8 Tryz.prog 125 [AV.ptr b 0, AV.agg w.cs, AV.int most] [.box b 55 (Q5 code c)] (fun x : N0 × List S5 × Value => x.1.p ≤ c.p + 1000 ∧ x.2.1.length ≤ 101 ∧ ∀ a ∈ x.2.1, Y3 a) (fun x => [.box b 55 (Q5 code x.1), .arr x.2.2 173 3 (x.2.1.map S5.cs)]) (fun x => AV.is x.2.2) := by
 refine C3 Tryz.func125 rfl Tryz.ntmps125 rfl ?_
 refine R3 ?_
 intro b4
 refine A4 rfl (D4 rfl F4) ?_
 refine R3 ?_
 refine O8 173 3 rfl rfl rfl rfl F4 ?_
 intro v7
 refine R7 ?_
 refine E4 [2] rfl rfl rfl rfl Tryz.call22 rfl (L1 _ _ hcode _ _ qz8 qz8) (A1 (A0 rfl) (A1 (A0 rfl) A7)) rfl ?_
 intro x12 ok12
 obtain ⟨n0, hn0⟩ : ∃ n0 : Nat, x12.2 = n0 := ⟨x12.2.toNat, by omega⟩
 refine R3 ?_
 refine AWP.le (C1 [0, 0] rfl) ?_
 refine o6 [(0, _), (4, _), (6, _)] _ (fun (n : Nat) (cc : N0) (l : List S5) (v : Value) => n + l.length = n0 ∧ cc.p ≤ c.p + 2 + 6 * l.length ∧ ∀ a ∈ l, Y3 a) (fun (n : Nat) (cc : N0) (l : List S5) (v : Value) => [.box b 55 (Q5 code cc), .arr v 173 3 (l.map S5.cs)]) (fun (n : Nat) (cc : N0) (l : List S5) (v : Value) => [(7, AV.is v), (8, AV.int n)]) (fun (n : Nat) (cc : N0) (l : List S5) (v : Value) => n) (n0) (x12.1) ([]) (v7) ?_ (I8 B0 ⟨rfl, congrArg (fun z => some (AV.int z)) qz8, rfl, rfl, rfl, trivial⟩) ?_
 ·exact ⟨by simp, by omega, fun a h => by cases h⟩
 intro n cc l v hinv
 refine R6 ?_
 refine A8 (A0 rfl) ?_ ?_
 ·intro h14
  have k14 := of_decide_eq_true h14; try simp only [A5] at k14
  have hn1 : 1 ≤ n := by (simp at h14; omega)
  refine R7 ?_
  refine E4 [0] rfl rfl rfl rfl Tryz.call145 rfl (BL1 _ _ hcode _ w hw qz8) (A1 (A0 rfl) (A1 (A0 rfl) A7)) rfl ?_
  intro x20 ok20
  refine R1 ?_
  refine G0 (by' := 24) 1 rfl rfl rfl rfl Tryz.underlying138 Tryz.type173 rfl rfl rfl rfl rfl rfl (A0 rfl) (A0 rfl) rfl AY0 ?_
  intro v22_1
  refine R7 ?_
  refine Y7 n cc l v (n - 1) (x20.1) (l ++ [x20.2]) (v22_1) ?_ ?_ (Le.trans (C1 [0, 0] rfl) (I8 Ab1 ⟨rfl, congrArg (fun z => some (AV.int z)) qz8, rfl, rfl, rfl, trivial⟩))
  ·exact ⟨by rw [G2, H6, N1]; omega, by rw [G2, H6, N1]; omega, fun a ha => (List.mem_append.1 ha).elim (hinv.2.2 a) fun e => by (rw [List.mem_singleton.1 e]; exact ok20.2)⟩
  omega
 intro h14
 have k14 := of_decide_eq_false h14; try simp only [A5] at k14
 refine R7 ?_
 (refine G1 [0, 0] ((cc, l, v)) ?_ rfl V8 (E6 rfl (A6 rfl B0)); exact ⟨show cc.p ≤ _ by omega, show l.length ≤ 101 by omega, hinv.2.2⟩)
theorem Av1 (b : Nat) (code : List Int) (hcode : Y4 code) (c : N0) (w : TWorld) (most : Int) (hw : WI w) (hm : 0 ≤ most ∧ most ≤ 100) (hp : c.p ≤ 4000000) : C8 Tryz.prog 125 [AV.ptr b 0, AV.agg w.cs, AV.int most] [.box b 55 (Q5 code c)] (fun x : N0 × List S5 => x.1.p ≤ c.p + 1000 ∧ x.2.length ≤ 101 ∧ ∀ a ∈ x.2, Y3 a) (fun x => [.box b 55 (Q5 code x.1)]) (fun x => AV.list 3 (x.2.map S5.cs)) :=
  u4 (fun x => (x.1, x.2.1)) (fun x => [.arr x.2.2 173 3 (x.2.1.map S5.cs)]) (fun x => [.box b 55 (Q5 code x.1)]) (Bs5 b code hcode c w most hw hm hp) (fun _ h => h) (fun x _ => J3 (List.mem_singleton.2 rfl) F5) (fun x _ => List.perm_append_comm (l₁ := [_])) (fun _ _ => c9 0 rfl rfl M9) (fun x _ => Ag7 ⟨rfl, rfl, f6⟩ AY9)
theorem BL2 (b : Nat) (code : List Int) (hcode : Y4 code) (c : N0) (hp : c.p ≤ 3000000) : C8 Tryz.prog 141 [AV.ptr b 0] [.box b 55 (Q5 code c)] (fun x : N0 × List (List TOp) × Value => x.1.p ≤ c.p + 500 ∧ x.2.1.length ≤ 4 ∧ ∀ p ∈ x.2.1, Bn5 p) (fun x => [.box b 55 (Q5 code x.1), .arr x.2.2 121 1 (x.2.1.map fun l => [AV.list 4 (l.map TOp.cs)])]) (fun x => AV.is x.2.2) := by
 refine C3 Tryz.func141 rfl Tryz.ntmps141 rfl ?_
 refine R2 ?_
 refine A4 rfl (D4 rfl F4) ?_
 refine R3 ?_
 refine O8 121 1 rfl rfl rfl rfl F4 ?_
 intro v3
 refine R5 ?_
 refine E4 [1] rfl rfl rfl rfl Tryz.call22 rfl (L1 _ _ hcode _ _ qz8 qz8) (A1 (A0 rfl) (A1 D8 A7)) rfl ?_
 intro x6 ok6
 obtain ⟨n0, hn0⟩ : ∃ n0 : Nat, x6.2 = n0 := ⟨x6.2.toNat, by omega⟩
 refine R4 ?_
 refine AWP.le (C1 [0, 0] rfl) ?_
 refine o6 [(0, _), (2, _)] _ (fun (n : Nat) (cc : N0) (l : List (List TOp)) (v : Value) => n + l.length = 1 + n0 ∧ cc.p ≤ c.p + 2 + 100 * l.length ∧ ∀ p ∈ l, Bn5 p) (fun (n : Nat) (cc : N0) (l : List (List TOp)) (v : Value) => [.box b 55 (Q5 code cc), .arr v 121 1 (l.map fun l => [AV.list 4 (l.map TOp.cs)])]) (fun (n : Nat) (cc : N0) (l : List (List TOp)) (v : Value) => [(3, AV.is v), (4, AV.int n)]) (fun (n : Nat) (cc : N0) (l : List (List TOp)) (v : Value) => n) (1 + n0) (x6.1) ([]) (v3) ?_ (I8 B0 ⟨rfl, congrArg (fun z => some (AV.int z)) qz8, rfl, rfl, trivial⟩) ?_
 ·exact ⟨by simp, by simp; omega, fun a h => by cases h⟩
 intro n cc l v hinv
 refine R6 ?_
 refine A8 (A0 rfl) ?_ ?_
 ·intro h9
  have k9 := of_decide_eq_true h9; try simp only [A5] at k9
  have hn1 : 1 ≤ n := by (simp at h9; omega)
  refine R6 ?_
  refine E4 [0] rfl rfl rfl rfl Tryz.call105 rfl (BB2 _ _ hcode _ qz8) (A1 (A0 rfl) A7) rfl ?_
  intro x14 ok14
  refine S4 1 rfl fun one_x14_2_2 => ?_
  refine AS2 (f0 [1] 14 rfl rfl (J3 (C6 (i := 0) rfl) F5) (c9 0 rfl rfl M9)) ?_
  refine R1 ?_
  refine G0 (by' := 24) 1 rfl rfl rfl rfl Tryz.underlying168 Tryz.type121 rfl rfl rfl rfl rfl rfl (A0 rfl) (A0 rfl) rfl AY0 ?_
  intro v16_1
  refine R7 ?_
  refine Y7 n cc l v (n - 1) (x14.1) (l ++ [x14.2.1]) (v16_1) ?_ ?_ (Le.trans (C1 [0, 0] rfl) (I8 Ab1 ⟨rfl, congrArg (fun z => some (AV.int z)) qz8, rfl, rfl, trivial⟩))
  ·exact ⟨by rw [G2, H6, N1]; omega, by rw [G2, H6, N1]; omega, fun a ha => (List.mem_append.1 ha).elim (hinv.2.2 a) fun e => by (rw [List.mem_singleton.1 e]; exact ⟨CJ9 qz8 ok14.2.2, ok14.2.1.1⟩)⟩
  omega
 intro h9
 have k9 := of_decide_eq_false h9; try simp only [A5] at k9
 refine R7 ?_
 (refine G1 [0, 0] ((cc, l, v)) ?_ rfl V8 (E6 rfl (A6 rfl B0)); exact ⟨show cc.p ≤ _ by omega, show l.length ≤ 4 by omega, hinv.2.2⟩)
theorem AK8 (b : Nat) (code : List Int) (hcode : Y4 code) (c : N0) (hp : c.p ≤ 3000000) : C8 Tryz.prog 141 [AV.ptr b 0] [.box b 55 (Q5 code c)] (fun x : N0 × List (List TOp) => x.1.p ≤ c.p + 500 ∧ x.2.length ≤ 4 ∧ ∀ p ∈ x.2, Bn5 p) (fun x => [.box b 55 (Q5 code x.1)]) (fun x => AV.list 1 (x.2.map fun l => [AV.list 4 (l.map TOp.cs)])) :=
  u4 (fun x => (x.1, x.2.1)) (fun x => [.arr x.2.2 121 1 (x.2.1.map fun l => [AV.list 4 (l.map TOp.cs)])]) (fun x => [.box b 55 (Q5 code x.1)]) (BL2 b code hcode c hp) (fun _ h => h) (fun x _ => J3 (List.mem_singleton.2 rfl) F5) (fun x _ => List.perm_append_comm (l₁ := [_])) (fun _ _ => c9 0 rfl rfl M9) (fun x _ => Ag7 ⟨rfl, rfl, f6⟩ AY9)
theorem BL3 (b : Nat) (code : List Int) (hcode : Y4 code) (c : N0) (hp : c.p ≤ 3000000) : C8 Tryz.prog 142 [AV.ptr b 0] [.box b 55 (Q5 code c)] (fun x : N0 × List (List Str) × Value => x.1.p ≤ c.p + 100 ∧ x.2.1.length ≤ 4 ∧ ∀ p ∈ x.2.1, BS0 p) (fun x => [.box b 55 (Q5 code x.1), .arr x.2.2 79 1 (x.2.1.map fun l => [strs l])]) (fun x => AV.is x.2.2) := by
 refine C3 Tryz.func142 rfl Tryz.ntmps142 rfl ?_
 refine R2 ?_
 refine A4 rfl (D4 rfl F4) ?_
 refine R3 ?_
 refine O8 79 1 rfl rfl rfl rfl F4 ?_
 intro v3
 refine R5 ?_
 refine E4 [1] rfl rfl rfl rfl Tryz.call22 rfl (L1 _ _ hcode _ _ qz8 qz8) (A1 (A0 rfl) (A1 D8 A7)) rfl ?_
 intro x8 ok8
 obtain ⟨n0, hn0⟩ : ∃ n0 : Nat, x8.2 = n0 := ⟨x8.2.toNat, by omega⟩
 refine R3 ?_
 refine AWP.le (C1 [0, 0] rfl) ?_
 refine o6 [(0, _), (2, _)] _ (fun (n : Nat) (cc : N0) (l : List (List Str)) (v : Value) => (n + l.length = n0 ∧ n0 ≤ 2) ∧ cc.p ≤ c.p + 2 + 20 * l.length ∧ ∀ p ∈ l, BS0 p) (fun (n : Nat) (cc : N0) (l : List (List Str)) (v : Value) => [.box b 55 (Q5 code cc), .arr v 79 1 (l.map fun l => [strs l])]) (fun (n : Nat) (cc : N0) (l : List (List Str)) (v : Value) => [(3, AV.is v), (4, AV.int n)]) (fun (n : Nat) (cc : N0) (l : List (List Str)) (v : Value) => n) (n0) (x8.1) ([]) (v3) ?_ (I8 B0 ⟨rfl, congrArg (fun z => some (AV.int z)) qz8, rfl, rfl, trivial⟩) ?_
 ·exact ⟨⟨by simp, by omega⟩, by simp; omega, fun a h => by cases h⟩
 intro n cc l v hinv
 refine R6 ?_
 refine A8 (A0 rfl) ?_ ?_
 ·intro h10
  have k10 := of_decide_eq_true h10; try simp only [A5] at k10
  have hinv0 := hinv
  have hn1 : 1 ≤ n := by (simp at h10; omega)
  refine R5 ?_
  refine O8 9 1 rfl rfl rfl rfl F4 ?_
  intro v5
  refine R5 ?_
  refine E4 [1] rfl rfl rfl rfl Tryz.call22 rfl (L1 _ _ hcode _ _ qz8 qz8) (A1 (A0 rfl) (A1 D8 A7)) rfl ?_
  intro x14 ok14
  obtain ⟨m0, hm0⟩ : ∃ m0 : Nat, x14.2 = m0 := ⟨x14.2.toNat, by omega⟩
  refine R4 ?_
  refine AWP.le (C1 [0, 0, 0] rfl) ?_
  refine o6 [(0, _), (2, _), (3, _), (4, _), (9, _), (10, _), (13, _), (14, _), (15, _)] _ (fun (m : Nat) (c2 : N0) (rs : List Str) (u : Value) => (m + rs.length ≤ 1 + m0 ∧ (m = 1 + m0 ∨ 1 ≤ rs.length)) ∧ c2.p + 2 * m ≤ cc.p + 4 + 2 * m0 ∧ n7 rs ∧ ∀ k ∈ rs, k ∈ keyD) (fun (m : Nat) (c2 : N0) (rs : List Str) (u : Value) => [.box b 55 (Q5 code c2), .arr u 9 1 (rs.map fun t => [AV.str t]), .arr v 79 1 (l.map fun l => [strs l])]) (fun (m : Nat) (c2 : N0) (rs : List Str) (u : Value) => [(5, AV.is u), (6, AV.int m)]) (fun (m : Nat) (c2 : N0) (rs : List Str) (u : Value) => m) (1 + m0) (x14.1) ([]) (v5) ?_ (I8 B0 ⟨rfl, congrArg (fun z => some (AV.int z)) qz8, rfl, rfl, rfl, rfl, rfl, rfl, rfl, rfl, rfl, trivial⟩) ?_
  ·exact ⟨⟨by simp, .inl rfl⟩, by omega, List.Pairwise.nil, fun k hk => by cases hk⟩
  intro m c2 rs u hinv
  refine R6 ?_
  refine A8 (A0 rfl) ?_ ?_
  ·intro h17
   have k17 := of_decide_eq_true h17; try simp only [A5] at k17
   have hm1 : 1 ≤ m := by (simp at h17; omega)
   refine R6 ?_
   refine E4 [0] rfl rfl rfl rfl Tryz.call155 rfl (BB0 _ _ hcode _ qz8) (A1 (A0 rfl) A7) rfl ?_
   intro x22 ok22
   refine E4 [1] rfl rfl rfl rfl Tryz.call148 rfl (AB1 u rs x22.2 hinv.2.2.1 qz8) (A1 (A0 rfl) (A1 (A0 rfl) A7)) rfl ?_
   intro x23 ok23
   refine R7 ?_
   refine Y7 m c2 rs u (m - 1) (x22.1) (putS rs x22.2) (x23) ?_ ?_ (Le.trans (C1 [1, 0, 0] rfl) (I8 B0 ⟨rfl, congrArg (fun z => some (AV.int z)) qz8, rfl, rfl, rfl, rfl, rfl, rfl, rfl, rfl, rfl, trivial⟩))
   ·(have h9 := Al8 x22.2 rs; have h6 : 1 ≤ (putS rs x22.2).length := putS_pos x22.2 rs; exact ⟨⟨by omega, .inr h6⟩, by omega, (AZ3 hinv.2.2.1).1, fun k hk => by (rcases ((AZ3 hinv.2.2.1).2 k).1 hk with hk | hk; (exact hinv.2.2.2 k hk); (rw [hk]; exact ok22.2))⟩)
   omega
  intro h17
  have k17 := of_decide_eq_false h17; try simp only [A5] at k17
  have hm9 : m = 0 := by (simp at h17; omega)
  refine R4 ?_
  refine S4 1 rfl fun one_u => ?_
  refine AS2 (f0 [1] 25 rfl rfl (J3 (C6 (i := 0) rfl) F5) (c9 0 rfl rfl M9)) ?_
  refine R1 ?_
  refine G0 (by' := 24) 1 rfl rfl rfl rfl i8 Tryz.type79 rfl rfl rfl rfl rfl rfl (A0 rfl) (A0 rfl) rfl AY0 ?_
  intro v27_1
  refine R7 ?_
  refine Y7 n cc l v (n - 1) (c2) (l ++ [rs]) (v27_1) ?_ ?_ (Le.trans (C1 [0, 0] rfl) (I8 Ab1 ⟨rfl, congrArg (fun z => some (AV.int z)) qz8, rfl, rfl, trivial⟩))
  ·exact ⟨⟨by rw [G2, H6, N1]; omega, by omega⟩, by rw [G2, H6, N1]; omega, fun a ha => (List.mem_append.1 ha).elim (hinv0.2.2 a) fun e => by (rw [List.mem_singleton.1 e]; exact ⟨⟨by omega, by omega⟩, hinv.2.2.1, hinv.2.2.2⟩)⟩
  omega
 intro h10
 have k10 := of_decide_eq_false h10; try simp only [A5] at k10
 refine R7 ?_
 (refine G1 [0, 0] ((cc, l, v)) ?_ rfl V8 (E6 rfl (A6 rfl B0)); exact ⟨show cc.p ≤ _ by omega, show l.length ≤ 4 by omega, hinv.2.2⟩)
theorem AB3 (b : Nat) (code : List Int) (hcode : Y4 code) (c : N0) (hp : c.p ≤ 3000000) : C8 Tryz.prog 142 [AV.ptr b 0] [.box b 55 (Q5 code c)] (fun x : N0 × List (List Str) => x.1.p ≤ c.p + 100 ∧ x.2.length ≤ 4 ∧ ∀ p ∈ x.2, BS0 p) (fun x => [.box b 55 (Q5 code x.1)]) (fun x => AV.list 1 (x.2.map fun l => [strs l])) :=
  u4 (fun x => (x.1, x.2.1)) (fun x => [.arr x.2.2 79 1 (x.2.1.map fun l => [strs l])]) (fun x => [.box b 55 (Q5 code x.1)]) (BL3 b code hcode c hp) (fun _ h => h) (fun x _ => J3 (List.mem_singleton.2 rfl) F5) (fun x _ => List.perm_append_comm (l₁ := [_])) (fun _ _ => c9 0 rfl rfl M9) (fun x _ => Ag7 ⟨rfl, rfl, f6⟩ AY9)
def cutsW : List (List Str) := [[[109]], [[99]], [], [[98], [110]]]
theorem Bm2 {l : List Str} (h : l ∈ cutsW) : l15Cuts l = true ∧ l.length ≤ 2 ∧ ∀ k ∈ l, k.length ≤ 12 := by
  have : ∀ l ∈ cutsW, l15Cuts l = true ∧ l.length ≤ 2 ∧ ∀ k ∈ l, k.length ≤ 12 := by decide
  exact this l h
theorem BL4 (b : Nat) (code : List Int) (hcode : Y4 code) (c : N0) (hp : c.p ≤ 2000000) : C8 Tryz.prog 123 [AV.ptr b 0] [.box b 55 (Q5 code c)] (fun x : N0 × TWorld => x.1.p ≤ c.p + 700 ∧ WI x.2 ∧ WQ x.2) (fun x => [.box b 55 (Q5 code x.1)]) (fun x => AV.agg x.2.cs) := by
 refine C3 Tryz.func123 rfl Tryz.ntmps123 rfl ?_
 refine R3 ?_
 intro b2
 refine R2 ?_
 refine P5 _ 19 (.pure 0 (.pure 1 (.pure 2 (.pure 3 (.pure 4 (.pure 5 (.pure 9 (.pure 11 (.e2 6 (.pure 7 (.pure 8 (.e2 10 (.e2 12 (.e2 13 (.pure 14 (.pure 15 (.pure 16 (.e1 17 (.e1 18 .nil))))) 17 (.e1 13 (.pure 14 (.pure 15 (.pure 16 (.e1 18 .nil)))))) 17 (.e1 12 (.e1 13 (.pure 14 (.pure 15 (.pure 16 (.e1 18 .nil))))))) 17 (.e1 10 (.e1 12 (.e1 13 (.pure 14 (.pure 15 (.pure 16 (.e1 18 .nil)))))))))) 17 (.e1 6 (.pure 7 (.pure 8 (.e1 10 (.e1 12 (.e1 13 (.pure 14 (.pure 15 (.pure 16 (.e1 18 .nil))))))))))))))))))) F1 F1 rfl (P1 1) ?_
 refine J0 rfl rfl rfl (fun ext => AJ8 rfl F7 K1 Tryz.zeroValue9 rfl rfl rfl rfl (E0 (L4 (l := [109]) rfl) (V0 _) T9) rfl rfl) ?_
 refine J0 rfl rfl rfl (fun ext => AJ8 rfl F7 K1 Tryz.zeroValue9 rfl rfl rfl rfl (E0 (L4 (l := [99]) rfl) (V0 _) T9) rfl rfl) ?_
 refine R1 ?_
 refine J0 rfl rfl rfl (fun ext => AJ8 rfl F7 K1 Tryz.zeroValue9 rfl rfl rfl rfl (E0 (L4 (l := [98]) rfl) (V0 _) (E0 (L4 (l := [110]) rfl) (V0 _) T9)) rfl rfl) ?_
 refine R4 ?_
 refine c8 ?_ ?_
 ·refine E1 rfl rfl rfl (P2 [1] rfl Tryz.call22 rfl (L1 _ _ hcode _ _ qz8 qz8) (A1 (A0 rfl) (A1 D8 A7)) rfl) (fun a _ => qz3) ?_
  intro x12 ok12
  obtain ⟨cu, hcu⟩ := get_some (show x12.2.toNat < cutsW.length from (show x12.2.toNat < 4 by omega))
  have hco := Bm2 (C6 hcu)
  refine J0 rfl rfl rfl (fun ext => AA6 rfl i8 d5 (A0 rfl) (A0 rfl) qz8 (L9 (f := fun l : List Str => [strs l]) hcu)) ?_
  refine R1 ?_
  refine c8 ?_ ?_
  ·refine E1 rfl rfl rfl (P2 [1] rfl Tryz.call141 rfl (AK8 _ _ hcode _ qz8) (A1 (A0 rfl) A7) rfl) (fun a _ => qz3) ?_
   intro x16 ok16
   refine c8 ?_ ?_
   ·refine E1 rfl rfl rfl (P2 [1] rfl Tryz.call142 rfl (AB3 _ _ hcode _ qz8) (A1 (A0 rfl) A7) rfl) (fun a _ => qz3) ?_
    intro x18 ok18
    refine c8 ?_ ?_
    ·refine E1 rfl rfl rfl (P2 [] rfl Tryz.call140 rfl (AF5 cu x16.2 x18.2 ⟨hco, ⟨ok16.2.1, ok16.2.2⟩, ⟨ok18.2.1, ok18.2.2⟩⟩) (A1 (A0 rfl) (A1 (A0 rfl) (A1 (A0 rfl) A7))) rfl) (fun a _ => qz3) ?_
     intro x19 ok19
     refine R4 ?_
     refine E1 rfl rfl rfl (Q6 rfl Tryz.zeroValue116 rfl) (fun a _ => qz3) ?_
     intro b3 _
     refine R1 ?_
     refine W1 rfl rfl rfl (U5 2 rfl rfl (A0 rfl) (A0 rfl) (U4 _) rfl O1 rfl) (fun a _ => qz3) ?_
     intro _ _
     refine R9 ?_
     (refine G1 [1] ((_, x19)) ?_ rfl V8 (E6 rfl (G7 (ys := _) 0 rfl rfl V5 O1 rfl)); exact ⟨by dsimp only; omega, ok19⟩)
    refine E1 rfl rfl rfl (Q6 rfl Tryz.zeroValue116 rfl) (fun a _ => qz3) ?_
    intro b3 _
    refine R1 ?_
    refine E1 rfl rfl rfl (P2 [] rfl Tryz.call140 rfl (AF5 cu x16.2 x18.2 ⟨hco, ⟨ok16.2.1, ok16.2.2⟩, ⟨ok18.2.1, ok18.2.2⟩⟩) (A1 (A0 rfl) (A1 (A0 rfl) (A1 (A0 rfl) A7))) rfl) (fun a _ => qz3) ?_
    intro x19 ok19
    refine R4 ?_
    refine W1 rfl rfl rfl (U5 2 rfl rfl (A0 rfl) (A0 rfl) (U4 _) rfl O1 rfl) (fun a _ => qz3) ?_
    intro _ _
    refine R9 ?_
    (refine G1 [1] ((_, x19)) ?_ rfl V8 (E6 rfl (G7 (ys := _) 0 rfl rfl V5 O1 rfl)); exact ⟨by dsimp only; omega, ok19⟩)
   refine E1 rfl rfl rfl (Q6 rfl Tryz.zeroValue116 rfl) (fun a _ => qz3) ?_
   intro b3 _
   refine R1 ?_
   refine E1 rfl rfl rfl (P2 [1] rfl Tryz.call142 rfl (AB3 _ _ hcode _ qz8) (A1 (A0 rfl) A7) rfl) (fun a _ => qz3) ?_
   intro x18 ok18
   refine R1 ?_
   refine E1 rfl rfl rfl (P2 [] rfl Tryz.call140 rfl (AF5 cu x16.2 x18.2 ⟨hco, ⟨ok16.2.1, ok16.2.2⟩, ⟨ok18.2.1, ok18.2.2⟩⟩) (A1 (A0 rfl) (A1 (A0 rfl) (A1 (A0 rfl) A7))) rfl) (fun a _ => qz3) ?_
   intro x19 ok19
   refine R4 ?_
   refine W1 rfl rfl rfl (U5 1 rfl rfl (A0 rfl) (A0 rfl) (U4 _) rfl O1 rfl) (fun a _ => qz3) ?_
   intro _ _
   refine R9 ?_
   (refine G1 [2] ((_, x19)) ?_ rfl V8 (E6 rfl (G7 (ys := _) 0 rfl rfl V5 O1 rfl)); exact ⟨by dsimp only; omega, ok19⟩)
  refine E1 rfl rfl rfl (Q6 rfl Tryz.zeroValue116 rfl) (fun a _ => qz3) ?_
  intro b3 _
  refine R1 ?_
  refine E1 rfl rfl rfl (P2 [1] rfl Tryz.call141 rfl (AK8 _ _ hcode _ qz8) (A1 (A0 rfl) A7) rfl) (fun a _ => qz3) ?_
  intro x16 ok16
  refine R1 ?_
  refine E1 rfl rfl rfl (P2 [2] rfl Tryz.call142 rfl (AB3 _ _ hcode _ qz8) (A1 (A0 rfl) A7) rfl) (fun a _ => qz3) ?_
  intro x18 ok18
  refine R1 ?_
  refine E1 rfl rfl rfl (P2 [] rfl Tryz.call140 rfl (AF5 cu x16.2 x18.2 ⟨hco, ⟨ok16.2.1, ok16.2.2⟩, ⟨ok18.2.1, ok18.2.2⟩⟩) (A1 (A0 rfl) (A1 (A0 rfl) (A1 (A0 rfl) A7))) rfl) (fun a _ => qz3) ?_
  intro x19 ok19
  refine R4 ?_
  refine W1 rfl rfl rfl (U5 1 rfl rfl (A0 rfl) (A0 rfl) (U4 _) rfl O1 rfl) (fun a _ => qz3) ?_
  intro _ _
  refine R9 ?_
  (refine G1 [2] ((_, x19)) ?_ rfl V8 (E6 rfl (G7 (ys := _) 0 rfl rfl V5 O1 rfl)); exact ⟨by dsimp only; omega, ok19⟩)
 refine E1 rfl rfl rfl (Q6 rfl Tryz.zeroValue116 rfl) (fun a _ => qz3) ?_
 intro b3 _
 refine R1 ?_
 refine E1 rfl rfl rfl (P2 [1] rfl Tryz.call22 rfl (L1 _ _ hcode _ _ qz8 qz8) (A1 (A0 rfl) (A1 D8 A7)) rfl) (fun a _ => qz3) ?_
 intro x12 ok12
 obtain ⟨cu, hcu⟩ := get_some (show x12.2.toNat < cutsW.length from (show x12.2.toNat < 4 by omega))
 have hco := Bm2 (C6 hcu)
 refine J0 rfl rfl rfl (fun ext => AA6 rfl i8 d5 (A0 rfl) (A0 rfl) qz8 (L9 (f := fun l : List Str => [strs l]) hcu)) ?_
 refine R2 ?_
 refine E1 rfl rfl rfl (P2 [2] rfl Tryz.call141 rfl (AK8 _ _ hcode _ qz8) (A1 (A0 rfl) A7) rfl) (fun a _ => qz3) ?_
 intro x16 ok16
 refine R1 ?_
 refine E1 rfl rfl rfl (P2 [2] rfl Tryz.call142 rfl (AB3 _ _ hcode _ qz8) (A1 (A0 rfl) A7) rfl) (fun a _ => qz3) ?_
 intro x18 ok18
 refine R1 ?_
 refine E1 rfl rfl rfl (P2 [] rfl Tryz.call140 rfl (AF5 cu x16.2 x18.2 ⟨hco, ⟨ok16.2.1, ok16.2.2⟩, ⟨ok18.2.1, ok18.2.2⟩⟩) (A1 (A0 rfl) (A1 (A0 rfl) (A1 (A0 rfl) A7))) rfl) (fun a _ => qz3) ?_
 intro x19 ok19
 refine R4 ?_
 refine W1 rfl rfl rfl (U5 1 rfl rfl (A0 rfl) (A0 rfl) (U4 _) rfl O1 rfl) (fun a _ => qz3) ?_
 intro _ _
 refine R9 ?_
 (refine G1 [2] ((_, x19)) ?_ rfl V8 (E6 rfl (G7 (ys := _) 0 rfl rfl V5 O1 rfl)); exact ⟨by dsimp only; omega, ok19⟩)
theorem Bm3 (b : Nat) (code : List Int) (hcode : Y4 code) (c : N0) (hp : c.p ≤ 1000000) : C8 Tryz.prog 102 [AV.ptr b 0] [.box b 55 (Q5 code c)] (fun x : N0 × TWorld => x.1.p ≤ c.p + 2000 ∧ WI x.2 ∧ WQ x.2) (fun x => [.box b 55 (Q5 code x.1)]) (fun x => AV.agg x.2.cs) := by
 refine C3 Tryz.func102 rfl Tryz.ntmps102 rfl ?_
 refine R3 ?_
 intro b2
 refine R4 ?_
 refine E4 [1] rfl rfl rfl rfl Tryz.call123 rfl (BL4 _ _ hcode _ qz8) (A1 (A0 rfl) A7) rfl ?_
 intro x7 ok7
 refine R1 ?_
 intro b3
 refine R3 ?_
 refine P5 _ 10 (.pure 0 (.pure 1 (.pure 2 (.e2 3 (.e2 4 (.pure 5 (.pure 6 (.pure 7 (.e1 8 (.e1 9 .nil))))) 8 (.e1 4 (.pure 5 (.pure 6 (.pure 7 (.e1 9 .nil)))))) 8 (.e1 3 (.e1 4 (.pure 5 (.pure 6 (.pure 7 (.e1 9 .nil)))))))))) F1 F1 rfl (P1 1) ?_
 refine R3 ?_
 refine c8 ?_ ?_
 ·refine E1 rfl rfl rfl (P2 [1] rfl Tryz.call125 rfl (Av1 _ _ hcode _ x7.2 _ ok7.2.1 D0 qz8) (A1 (A0 rfl) (A1 (A0 rfl) (A1 D8 A7))) rfl) (fun a _ => qz3) ?_
  intro x12 ok12
  refine c8 ?_ ?_
  ·refine E1 rfl rfl rfl (P2 [] rfl Tryz.call124 rfl (BE9 x7.2 x12.2 ok7.2.1 ok7.2.2 ok12.2.2 qz8) (A1 (A0 rfl) (A1 (A0 rfl) A7)) rfl) (fun a _ => qz3) ?_
   intro x13 ok13
   refine R4 ?_
   refine E1 rfl rfl rfl (Q6 rfl Tryz.zeroValue116 rfl) (fun a _ => qz3) ?_
   intro b4 _
   refine R1 ?_
   refine W1 rfl rfl rfl (U5 4 rfl rfl (A0 rfl) (A0 rfl) (U4 _) rfl O1 rfl) (fun a _ => qz3) ?_
   intro _ _
   refine R9 ?_
   (refine G1 [2] ((x12.1, x13.1.1)) ?_ rfl V8 (E6 rfl (G7 (ys := _) 1 rfl rfl V5 O1 rfl)); exact ⟨by dsimp only; omega, ok13⟩)
  refine E1 rfl rfl rfl (Q6 rfl Tryz.zeroValue116 rfl) (fun a _ => qz3) ?_
  intro b4 _
  refine R1 ?_
  refine E1 rfl rfl rfl (P2 [] rfl Tryz.call124 rfl (BE9 x7.2 x12.2 ok7.2.1 ok7.2.2 ok12.2.2 qz8) (A1 (A0 rfl) (A1 (A0 rfl) A7)) rfl) (fun a _ => qz3) ?_
  intro x13 ok13
  refine R4 ?_
  refine W1 rfl rfl rfl (U5 3 rfl rfl (A0 rfl) (A0 rfl) (U4 _) rfl O1 rfl) (fun a _ => qz3) ?_
  intro _ _
  refine R9 ?_
  (refine G1 [2] ((x12.1, x13.1.1)) ?_ rfl V8 (E6 rfl (G7 (ys := _) 1 rfl rfl V5 O1 rfl)); exact ⟨by dsimp only; omega, ok13⟩)
 refine E1 rfl rfl rfl (Q6 rfl Tryz.zeroValue116 rfl) (fun a _ => qz3) ?_
 intro b4 _
 refine R1 ?_
 refine E1 rfl rfl rfl (P2 [1] rfl Tryz.call125 rfl (Av1 _ _ hcode _ x7.2 _ ok7.2.1 D0 qz8) (A1 (A0 rfl) (A1 (A0 rfl) (A1 D8 A7))) rfl) (fun a _ => qz3) ?_
 intro x12 ok12
 refine R1 ?_
 refine E1 rfl rfl rfl (P2 [] rfl Tryz.call124 rfl (BE9 x7.2 x12.2 ok7.2.1 ok7.2.2 ok12.2.2 qz8) (A1 (A0 rfl) (A1 (A0 rfl) A7)) rfl) (fun a _ => qz3) ?_
 intro x13 ok13
 refine R4 ?_
 refine W1 rfl rfl rfl (U5 2 rfl rfl (A0 rfl) (A0 rfl) (U4 _) rfl O1 rfl) (fun a _ => qz3) ?_
 intro _ _
 refine R9 ?_
 (refine G1 [3] ((x12.1, x13.1.1)) ?_ rfl V8 (E6 rfl (G7 (ys := _) 1 rfl rfl V5 O1 rfl)); exact ⟨by dsimp only; omega, ok13⟩)
end Go.Proofs.YtcfkbhnpfjjmjaaGreat
namespace Go.M
open Go.AV
def yesTo (h : List C5) (i : Nat) : List Int := (List.range i).filterMap fun j : Nat => if (deedAt h (Int.ofNat j)).Yes = true then some (Int.ofNat j) else none
theorem CK0 (h : List C5) : yesTo h h.length = m6 h := rfl
theorem BB3 {h : List C5} {i : Nat} {d : C5} (hx : h[i]? = some d) : deedAt h (i : Int) = d := by unfold deedAt; rw [Int.toNat_natCast, hx]; rfl
theorem BY6 {h : List C5} {i : Nat} {d : C5} (hx : h[i]? = some d) (hy : d.Yes = true) : yesTo h (i + 1) = yesTo h i ++ [(i : Int)] := by
  unfold yesTo
  rw [List.range_succ, List.filterMap_append, List.filterMap_cons, List.filterMap_nil]
  rw [show deedAt h (Int.ofNat i) = d from BB3 hx, if_pos hy]; rfl
theorem Bm4 {h : List C5} {i : Nat} {d : C5} (hx : h[i]? = some d) (hy : d.Yes = false) : yesTo h (i + 1) = yesTo h i := by
  unfold yesTo
  rw [List.range_succ, List.filterMap_append, List.filterMap_cons, List.filterMap_nil]
  rw [show deedAt h (Int.ofNat i) = d from BB3 hx, if_neg (by rw [hy]; decide)]; exact List.append_nil _
theorem CK1 (h : List C5) (i : Nat) : (yesTo h i).length ≤ i := by
  unfold yesTo
  have := List.length_filterMap_le (fun j : Nat => if (deedAt h (Int.ofNat j)).Yes = true then some (Int.ofNat j) else none) (List.range i)
  rw [List.length_range] at this
  exact this
theorem hist_all {h : List C5} : (h.any fun d => !W5 d) = !(h.all W5) := by rw [List.not_all_eq_any_not]
theorem BY7 {h : List C5} {i : Nat} {d : C5} (hx : h[i]? = some d) : (h.drop i).all W5 = (W5 d && (h.drop (i + 1)).all W5) := Au3 hx
theorem Y9 {a : C5} (h : W5 a = true) : adj wLess a.Writes = true ∧ -1 ≤ a.End := by
  refine ⟨(AI6 h).2.2, ?_⟩
  unfold W5 at h
  simp only [Bool.and_eq_true, Bool.or_eq_true, beq_iff_eq] at h
  have h1 := h.1.1.1.1.1.2
  have h2 := h.1.1.1.1.2
  unfold within at h1 h2
  simp only [Bool.and_eq_true, decide_eq_true_eq] at h1 h2
  omega
end Go.M
namespace Go.Proofs.YtcfkbhnpfjjmjaaGreat
open Go Go.AV Go.M
attribute [local irreducible] OpW OpA OpS AWP B9 J5 C8 OpE RetOk H1 I9 Le Ev F6 J9
theorem BQ7 (d : C5) (hs : d.size ≤ 1048576) : B9 Tryz.prog 72 [AV.agg d.cs] (AV.bool (!W5 d)) := by
  refine B7 Tryz.func72 rfl Tryz.ntmps72 rfl ?_
  refine R3 ?_
  intro b1
  refine R5 ?_
  refine A4 rfl (B2 rfl Tryz.call41 rfl (Af6 _ T0) (A1 (A0 rfl) A7)) ?_
  refine R4 ?_
  exact D5 rfl (A6 rfl U6)
theorem BF0 (h : List C5) (hs : ∀ d ∈ h, d.size ≤ 1048576) : B9 Tryz.prog 44 [AV.list 8 (h.map C5.cs)] (AV.bool (goodHist h)) := by
  refine B7 Tryz.func44 rfl Tryz.ntmps44 rfl ?_
  refine R11 ?_
  refine L3 rfl (fun hc => B2 rfl Tryz.call71 rfl (Ah2 h (fun d => d.size ≤ 1048576) (fun d => !W5 d) hs) (A1 (B1 rfl hc) (A1 (BO6 Tryz.call72 (fun d (p : d.size ≤ 1048576) => BQ7 d p)) A7))) ?_
  refine R5 ?_
  exact D5 rfl (A6 rfl (by exact congrArg AV.bool (by unfold goodHist; rw [hist_all, Bool.not_not, A5])))
theorem Av2 (h : List C5) (hs : ∀ d ∈ h, d.size ≤ 1048576) : B9 Tryz.prog 48 [AV.list 8 (h.map C5.cs)] (AV.bool (goodHist h)) := by
 refine B7 Tryz.func48 rfl Tryz.ntmps48 rfl ?_
 refine S0 (t := 0) rfl fun hl => ?_
 try simp only [A5] at hl
 refine R12 ?_
 refine E5 [(0, _), (5, _), (6, _)] _ (fun (i : Nat) => i ≤ h.length ∧ h.all W5 = (h.drop i).all W5) (fun (i : Nat) => []) (fun (i : Nat) => [(7, AV.int i)]) (fun (i : Nat) => h.length - i) (0) ?_ (I8 B0 ⟨rfl, rfl, rfl, rfl, trivial⟩) ?_
 ·exact ⟨Nat.zero_le _, rfl⟩
 intro i hinv
 refine R5 ?_
 refine A8 (A0 rfl) ?_ ?_
 ·intro h8
  have k8 := of_decide_eq_true h8; try simp only [A5] at k8
  have hlt : i < h.length := by (simpa using h8)
  obtain ⟨x, hx⟩ := get_some hlt
  have hxs := hs x (C6 hx)
  refine R5 ?_
  refine A4 rfl (C7 rfl H5 I3 (A0 rfl) (A0 rfl) hx qz4) ?_
  refine R2 ?_
  intro b4
  refine R5 ?_
  refine A4 rfl (B2 rfl Tryz.call42 rfl (Aa2 _ T0) (A1 (A0 rfl) A7)) ?_
  refine R2 ?_
  refine A8 (A0 rfl) ?_ ?_
  ·intro h13
   have he : goodHist h = false := (by unfold goodHist; rw [hinv.2, BY7 hx, show W5 x = false by simpa using h13, Bool.false_and, Bool.and_false])
   rw [he]
   refine R5 ?_
   exact D5 rfl (A6 rfl qz191)
  intro h13
  have hd1 : W5 x = true := Av9
  refine R5 ?_
  refine F3 i (i + 1) ?_ ?_ (Le.trans (C1 [0] rfl) (E3 1 B0 ⟨rfl, rfl, rfl, rfl, trivial⟩))
  ·exact ⟨by omega, by rw [hinv.2, BY7 hx, hd1, Bool.true_and]⟩
  omega
 intro h8
 have k8 := of_decide_eq_false h8; try simp only [A5] at k8
 have hge : h.length ≤ i := by (simpa using h8)
 have hfin := hinv.2
 rw [List.drop_eq_nil_of_le hge] at hfin
 refine R9 ?_
 exact D5 rfl (A6 rfl qz191)
theorem AQ7 (h : List C5) (o : List Int) (hs : ∀ d ∈ h, d.size ≤ 1048576) (hl : h.length ≤ 4611686018427387904) : B9 Tryz.prog 24 [AV.list 8 (h.map C5.cs), ints o] (AV.bool (Y2 h o)) := by
 refine B7 Tryz.func24 rfl Tryz.ntmps24 rfl ?_
 refine S0 (t := 1) rfl fun hol => ?_
 try simp only [A5] at hol
 refine R12 ?_
 refine E5 [(0, _), (1, _), (7, _), (8, _)] _ (fun (i : Nat) => i ≤ o.length ∧ idxF9 (h.length : Int) [] o = idxF9 (h.length : Int) (o.take i) (o.drop i)) (fun (i : Nat) => []) (fun (i : Nat) => [(9, AV.int i)]) (fun (i : Nat) => o.length - i) (0) ?_ (I8 B0 ⟨rfl, rfl, rfl, rfl, rfl, trivial⟩) ?_
 ·exact ⟨Nat.zero_le _, rfl⟩
 intro i hinv
 refine R5 ?_
 refine A8 (A0 rfl) ?_ ?_
 ·intro h10
  have k10 := of_decide_eq_true h10; try simp only [A5] at k10
  have hlt : i < o.length := by (simpa using h10)
  obtain ⟨x, hx⟩ := get_some hlt
  have hst := Bk1 (m := (h.length : Int)) hx
  refine R6 ?_
  refine A4 rfl (C7 rfl B3 B4 (A0 rfl) (A0 rfl) hx qz4) ?_
  refine R10 ?_
  refine A4 rfl (B2 rfl Tryz.call25 rfl (u5 _ _ _) (A1 (A0 rfl) (A1 D8 (A1 (A0 rfl) A7)))) ?_
  refine R4 ?_
  refine P4 rfl (fun hc => j0 rfl B3 B4 (B1 rfl hc) (B1 rfl hc) qz6 qz6) ?_
  refine R1 ?_
  refine P4 rfl (fun hc => B2 rfl Tryz.call37 rfl (AZ8 (o.take i) x) (A1 (B1 rfl hc) (A1 (B1 rfl hc) A7))) ?_
  refine R2 ?_
  refine A8 (A0 rfl) ?_ ?_
  ·intro h26
   have hn : (within x 0 ((h.length : Int) - 1) && !((o.take i).any fun y => x == y)) = false := qz74
   have he : Y2 h o = false := (by unfold Y2; rw [hinv.2, hst, hn, Bool.false_and, Bool.false_and])
   rw [he]
   refine R5 ?_
   exact D5 rfl (A6 rfl qz98)
  intro h26
  have hy : (within x 0 ((h.length : Int) - 1) && !((o.take i).any fun y => x == y)) = true := qz74
  refine R5 ?_
  refine F3 i (i + 1) ?_ ?_ (I8 B0 ⟨rfl, rfl, rfl, rfl, rfl, trivial⟩)
  ·exact ⟨by omega, by rw [hinv.2, hst, hy, Bool.true_and]⟩
  omega
 intro h10
 have k10 := of_decide_eq_false h10; try simp only [A5] at k10
 have hge : o.length ≤ i := by (simpa using h10)
 have hfin := hinv.2
 rw [Bv9 hge] at hfin
 refine R4 ?_
 refine A4 rfl (B2 rfl Tryz.call44 rfl (BF0 _ k0) (A1 (A0 rfl) A7)) ?_
 refine R3 ?_
 exact D5 rfl (A6 rfl qz98)
theorem Bb5 (h : List C5) (o : List Int) (hs : ∀ d ∈ h, d.size ≤ 1048576) (hl : h.length ≤ 4611686018427387904) : B9 Tryz.prog 29 [AV.list 8 (h.map C5.cs), ints o] (AV.bool (Y2 h o)) := by
 refine B7 Tryz.func29 rfl Tryz.ntmps29 rfl ?_
 refine S0 (t := 1) rfl fun hol => ?_
 try simp only [A5] at hol
 refine R12 ?_
 refine E5 [(0, _), (1, _), (7, _), (8, _)] _ (fun (i : Nat) => i ≤ o.length ∧ idxF9 (h.length : Int) [] o = idxF9 (h.length : Int) (o.take i) (o.drop i)) (fun (i : Nat) => []) (fun (i : Nat) => [(9, AV.int i)]) (fun (i : Nat) => o.length - i) (0) ?_ (I8 B0 ⟨rfl, rfl, rfl, rfl, rfl, trivial⟩) ?_
 ·exact ⟨Nat.zero_le _, rfl⟩
 intro i hinv
 refine R5 ?_
 refine A8 (A0 rfl) ?_ ?_
 ·intro h10
  have k10 := of_decide_eq_true h10; try simp only [A5] at k10
  have hlt : i < o.length := by (simpa using h10)
  obtain ⟨x, hx⟩ := get_some hlt
  have hst := Bk1 (m := (h.length : Int)) hx
  refine R6 ?_
  refine A4 rfl (C7 rfl B3 B4 (A0 rfl) (A0 rfl) hx qz4) ?_
  refine R10 ?_
  refine A4 rfl (B2 rfl Tryz.call30 rfl (N5 _ _ _) (A1 (A0 rfl) (A1 D8 (A1 (A0 rfl) A7)))) ?_
  refine R4 ?_
  refine P4 rfl (fun hc => j0 rfl B3 B4 (B1 rfl hc) (B1 rfl hc) qz6 qz6) ?_
  refine R1 ?_
  refine P4 rfl (fun hc => B2 rfl Tryz.call58 rfl (BX1 (o.take i) x) (A1 (B1 rfl hc) (A1 (B1 rfl hc) A7))) ?_
  refine R2 ?_
  refine A8 (A0 rfl) ?_ ?_
  ·intro h26
   have hn : (within x 0 ((h.length : Int) - 1) && !((o.take i).any fun y => x == y)) = false := qz74
   have he : Y2 h o = false := (by unfold Y2; rw [hinv.2, hst, hn, Bool.false_and, Bool.false_and])
   rw [he]
   refine R5 ?_
   exact D5 rfl (A6 rfl qz98)
  intro h26
  have hy : (within x 0 ((h.length : Int) - 1) && !((o.take i).any fun y => x == y)) = true := qz74
  refine R5 ?_
  refine F3 i (i + 1) ?_ ?_ (I8 B0 ⟨rfl, rfl, rfl, rfl, rfl, trivial⟩)
  ·exact ⟨by omega, by rw [hinv.2, hst, hy, Bool.true_and]⟩
  omega
 intro h10
 have k10 := of_decide_eq_false h10; try simp only [A5] at k10
 have hge : o.length ≤ i := by (simpa using h10)
 have hfin := hinv.2
 rw [Bv9 hge] at hfin
 refine R4 ?_
 refine A4 rfl (B2 rfl Tryz.call48 rfl (Av2 _ k0) (A1 (A0 rfl) A7)) ?_
 refine R3 ?_
 exact D5 rfl (A6 rfl qz98)
theorem AB8 (a b : C5) (hE : -1 ≤ a.End) : B9 Tryz.prog 32 [AV.agg a.cs, AV.agg b.cs] (AV.bool (Go.M.ahead a b)) := by
  have he : (a.End != -1) = decide (a.End ≥ 0) := by rw [Bool.eq_iff_iff, bne_iff_ne, decide_eq_true_eq]; omega
  refine B7 Tryz.func32 rfl Tryz.ntmps32 rfl ?_
  refine R3 ?_
  intro b2
  refine R1 ?_
  intro b3
  refine R17 ?_
  exact D5 rfl (A6 rfl (by exact congrArg AV.bool (by unfold Go.M.ahead; rw [he])))
theorem Bm5 (d : C5) (hs : d.Got.length ≤ 1048576) : C8 Tryz.prog 56 [AV.agg d.cs] [] (fun _ : Value => True) (fun v => [.arr v 9 1 ((d.Got.map G4.Key).map fun s => [AV.str s])]) (fun v => AV.is v) := by
 refine C3 Tryz.func56 rfl Tryz.ntmps56 rfl ?_
 refine R3 ?_
 intro b1
 refine A4 rfl (D4 rfl F4) ?_
 refine R3 ?_
 refine N8 rfl rfl rfl rfl F7 K1 ?_
 intro v6
 refine R11 ?_
 refine AWP.le (C1 [0] rfl) ?_
 refine J7 [(2, _), (8, _), (9, _)] _ (fun (i : Nat) (v : Value) => i ≤ d.Got.length) (fun (i : Nat) (v : Value) => [.arr v 9 1 (((d.Got.take i).map G4.Key).map fun s => [AV.str s])]) (fun (i : Nat) (v : Value) => [(3, AV.is v), (10, AV.int i)]) (fun (i : Nat) (v : Value) => d.Got.length - i) (0) (v6) ?_ (I8 B0 ⟨rfl, rfl, rfl, rfl, rfl, trivial⟩) ?_
 ·exact Nat.zero_le _
 intro i v hinv
 refine R5 ?_
 refine A8 (A0 rfl) ?_ ?_
 ·intro h11
  have k11 := of_decide_eq_true h11; try simp only [A5] at k11
  have hlt : i < d.Got.length := by (simpa using h11)
  obtain ⟨x, hx⟩ := get_some hlt
  refine R5 ?_
  refine A4 rfl (C7 rfl J6 O5 (A0 rfl) (A0 rfl) hx qz4) ?_
  refine R2 ?_
  intro b5
  refine R7 ?_
  refine G0 (by' := 16) 1 rfl rfl rfl rfl F7 Tryz.type9 rfl rfl rfl rfl rfl rfl (A0 rfl) (A0 rfl) rfl BB6 ?_
  intro v18_1
  refine R6 ?_
  refine G9 i v (i + 1) (v18_1) ?_ ?_ (Le.trans (C1 [0, 0] rfl) (E3 1 (by (rw [takeX hx, List.map_append, List.map_append]; rfl)) ⟨rfl, rfl, rfl, rfl, rfl, trivial⟩))
  ·omega
  omega
 intro h11
 have k11 := of_decide_eq_false h11; try simp only [A5] at k11
 have hge : d.Got.length ≤ i := by (simpa using h11)
 rw [List.take_of_length_le hge]
 refine R7 ?_
 exact G1 [0] v (trivial) rfl B0 (E6 rfl (A6 rfl B0))
theorem Ap3 (d : C5) (hs : d.Got.length ≤ 1048576) : B9 Tryz.prog 56 [AV.agg d.cs] (strs (d.Got.map G4.Key)) :=
  K2 (Bm5 d hs) fun x _ => J3 (List.mem_singleton.2 rfl) F5
theorem Aa5 (a b : C5) (ha : adj wLess a.Writes = true) (hb : adj wLess b.Writes = true) (hsa : a.size ≤ 1048576) (hsb : b.size ≤ 1048576) : B9 Tryz.prog 26 [AV.agg a.cs, AV.agg b.cs] (AV.bool (q8 a b)) := by
  obtain ⟨ha1, ha2, ha3, ha4⟩ := AF1 hsa
  obtain ⟨hb1, hb2, hb3, hb4⟩ := AF1 hsb
  refine B7 Tryz.func26 rfl Tryz.ntmps26 rfl ?_
  refine R3 ?_
  intro b2
  refine R1 ?_
  intro b3
  refine R4 ?_
  refine A4 rfl (D4 rfl ev_func) ?_
  refine R7 ?_
  refine C2 rfl rfl (AJ9 rfl (i9 (A0 rfl) (Bu4 Tryz.call56 (fun d (p : d.Got.length ≤ 1048576) => Ap3 d p))) b hb3 (A0 rfl)) ?_
  refine R2 ?_
  refine C2 rfl rfl (B2 rfl Tryz.call57 rfl (At3 a.Writes (b.Got.map G4.Key) b.Writes qz8 hb) (A1 (A0 rfl) (A1 (A0 rfl) (A1 (A0 rfl) A7)))) ?_
  refine R6 ?_
  refine M6 rfl (O4 rfl rfl rfl) (fun hc => AJ9 rfl (i9 (B1 rfl hc) (Bu4 Tryz.call56 (fun d (p : d.Got.length ≤ 1048576) => Ap3 d p))) a ha3 (B1 rfl hc)) ?_
  refine R2 ?_
  refine M6 rfl (O4 rfl rfl rfl) (fun hc => B2 rfl Tryz.call57 rfl (At3 b.Writes (a.Got.map G4.Key) a.Writes qz8 ha) (A1 (B1 rfl hc) (A1 (B1 rfl hc) (A1 (B1 rfl hc) A7)))) ?_
  refine R5 ?_
  exact D5 rfl (A6 rfl B0)
theorem Ad3 (a b : C5) (hsa : a.size ≤ 1048576) (hsb : b.size ≤ 1048576) : B9 Tryz.prog 59 [AV.agg a.cs, AV.agg b.cs] (AV.bool (touches a b)) := by
 obtain ⟨ha1, ha2, ha3, ha4⟩ := AF1 hsa
 obtain ⟨hb1, hb2, hb3, hb4⟩ := AF1 hsb
 refine B7 Tryz.func59 rfl Tryz.ntmps59 rfl ?_
 refine R3 ?_
 intro b2
 refine R1 ?_
 intro b3
 refine R11 ?_
 refine E5 [(3, _), (10, _), (11, _)] _ (fun (i : Nat) => i ≤ a.Writes.length ∧ touches a b = (a.Writes.drop i).any fun w => hasK b.Writes w.Key || b.Got.any fun g => g.Key == w.Key) (fun (i : Nat) => []) (fun (i : Nat) => [(12, AV.int i)]) (fun (i : Nat) => a.Writes.length - i) (0) ?_ (I8 B0 ⟨rfl, rfl, rfl, rfl, trivial⟩) ?_
 ·exact ⟨Nat.zero_le _, Br4 a b⟩
 intro i hinv
 refine R5 ?_
 refine A8 (A0 rfl) ?_ ?_
 ·intro h13
  have k13 := of_decide_eq_true h13; try simp only [A5] at k13
  have hlt : i < a.Writes.length := by (simpa using h13)
  obtain ⟨x, hx⟩ := get_some hlt
  have hi0 := hinv.2
  refine R5 ?_
  refine A4 rfl (C7 rfl C0 E9 (A0 rfl) (A0 rfl) hx qz4) ?_
  refine R2 ?_
  intro b6
  refine R9 ?_
  refine A4 rfl (B2 rfl Tryz.call50 rfl (AO1 _ _) (A1 (A0 rfl) (A1 (A0 rfl) A7))) ?_
  refine R1 ?_
  refine A8 (A0 rfl) ?_ ?_
  ·intro h20
   have he : touches a b = true := (by rw [hi0, AF0 hx, h20]; rfl)
   rw [he]
   refine R5 ?_
   exact D5 rfl (A6 rfl qz165)
  intro h20
  refine R9 ?_
  refine E5 [(3, _), (6, _), (10, _), (11, _), (12, _), (13, _), (14, _), (15, _), (16, _), (17, _), (18, _), (19, _), (20, _), (21, _), (22, _), (23, _)] _ (fun (j : Nat) => j ≤ b.Got.length ∧ (b.Got.any fun g => g.Key == x.Key) = ((b.Got.drop j).any fun g => g.Key == x.Key)) (fun (j : Nat) => []) (fun (j : Nat) => [(24, AV.int j)]) (fun (j : Nat) => b.Got.length - j) (0) ?_ (I8 B0 ⟨rfl, rfl, rfl, rfl, rfl, rfl, rfl, rfl, rfl, rfl, rfl, rfl, rfl, rfl, rfl, rfl, rfl, trivial⟩) ?_
  ·exact ⟨Nat.zero_le _, rfl⟩
  intro j hinv
  refine R5 ?_
  refine A8 (A0 rfl) ?_ ?_
  ·intro h25
   have k25 := of_decide_eq_true h25; try simp only [A5] at k25
   have hlt1 : j < b.Got.length := by (simpa using h25)
   obtain ⟨z, hz⟩ := get_some hlt1
   refine R5 ?_
   refine A4 rfl (C7 rfl J6 O5 (A0 rfl) (A0 rfl) hz qz4) ?_
   refine R2 ?_
   intro b8
   refine R10 ?_
   refine A8 (A0 rfl) ?_ ?_
   ·intro h32
    have he : touches a b = true := (by rw [hi0, AF0 hx, hinv.2, AF0 hz, h32, Bool.true_or, Bool.or_true, Bool.true_or])
    rw [he]
    refine R5 ?_
    exact D5 rfl (A6 rfl qz165)
   intro h32
   refine R5 ?_
   refine F3 j (j + 1) ?_ ?_ (Le.trans (C1 [0] rfl) (E3 1 B0 ⟨rfl, rfl, rfl, rfl, rfl, rfl, rfl, rfl, rfl, rfl, rfl, rfl, rfl, rfl, rfl, rfl, rfl, trivial⟩))
   ·exact ⟨by omega, by rw [hinv.2, AF0 hz, h32]; rfl⟩
   omega
  intro h25
  have k25 := of_decide_eq_false h25; try simp only [A5] at k25
  have hge1 : b.Got.length ≤ j := by (simpa using h25)
  have hj3 : (b.Got.any fun g => g.Key == x.Key) = false := qz182
  refine R5 ?_
  refine F3 i (i + 1) ?_ ?_ (Le.trans (C1 [0] rfl) (E3 1 B0 ⟨rfl, rfl, rfl, rfl, trivial⟩))
  ·exact ⟨by omega, by rw [hi0, AF0 hx, h20, hj3]; rfl⟩
  omega
 intro h13
 have k13 := of_decide_eq_false h13; try simp only [A5] at k13
 have hge : a.Writes.length ≤ i := by (simpa using h13)
 have hfin := hinv.2
 rw [List.drop_eq_nil_of_le hge] at hfin
 refine R6 ?_
 exact D5 rfl (A6 rfl qz165)
theorem AO4 (a b : C5) (hsa : a.size ≤ 1048576) (hsb : b.size ≤ 1048576) : B9 Tryz.prog 31 [AV.agg a.cs, AV.agg b.cs] (AV.bool (q8 a b)) := by
  refine B7 Tryz.func31 rfl Tryz.ntmps31 rfl ?_
  refine R3 ?_
  intro b2
  refine R1 ?_
  intro b3
  refine R6 ?_
  refine A4 rfl (B2 rfl Tryz.call59 rfl (Ad3 _ _ T0 T0) (A1 (A0 rfl) (A1 (A0 rfl) A7))) ?_
  refine R4 ?_
  refine L3 rfl (fun hc => B2 rfl Tryz.call59 rfl (Ad3 _ _ T0 T0) (A1 (B1 rfl hc) (A1 (B1 rfl hc) A7))) ?_
  refine R5 ?_
  exact D5 rfl (A6 rfl B0)
theorem Ap4 (a b : C5) (hsa : a.size ≤ 1048576) (hsb : b.size ≤ 1048576) : B9 Tryz.prog 12 [AV.agg a.cs, AV.agg b.cs] (AV.tup [AV.bool (AD5 a b).1, AV.bool (AD5 a b).2]) := by
 refine B7 Tryz.func12 rfl Tryz.ntmps12 rfl ?_
 refine R3 ?_
 intro b2
 refine R1 ?_
 intro b3
 refine R7 ?_
 refine A4 rfl (B2 rfl Tryz.call41 rfl (Af6 _ T0) (A1 (A0 rfl) A7)) ?_
 refine R3 ?_
 refine P4 rfl (fun hc => B2 rfl Tryz.call41 rfl (Af6 _ T0) (A1 (B1 rfl hc) A7)) ?_
 refine R3 ?_
 refine A8 (A0 rfl) ?_ ?_
 ·intro h13
  have he : AD5 a b = (false, false) := qz174
  rw [he]
  refine R6 ?_
  exact W6 rfl D0 (B6 (A6 rfl B0) (B6 (A6 rfl B0) E8))
 intro h13
 have hg : W5 a = true ∧ W5 b = true := Av9
 have he : AD5 a b = (q8 a b, true) := (by unfold AD5; rw [if_pos (by rw [hg.1, hg.2]; rfl)])
 rw [he]
 have hca := (Y9 hg.1).1
 have hcb := (Y9 hg.2).1
 refine R5 ?_
 refine A4 rfl (B2 rfl Tryz.call26 rfl (Aa5 _ _ k0 k0 T0 T0) (A1 (A0 rfl) (A1 (A0 rfl) A7))) ?_
 refine R4 ?_
 exact W6 rfl D0 (B6 (A6 rfl B0) (B6 (A6 rfl B0) E8))
theorem Bb6 (a b : C5) (hsa : a.size ≤ 1048576) (hsb : b.size ≤ 1048576) : B9 Tryz.prog 13 [AV.agg a.cs, AV.agg b.cs] (AV.tup [AV.bool (AD5 a b).1, AV.bool (AD5 a b).2]) := by
 refine B7 Tryz.func13 rfl Tryz.ntmps13 rfl ?_
 refine R3 ?_
 intro b2
 refine R1 ?_
 intro b3
 refine R7 ?_
 refine A4 rfl (B2 rfl Tryz.call42 rfl (Aa2 _ T0) (A1 (A0 rfl) A7)) ?_
 refine R3 ?_
 refine P4 rfl (fun hc => B2 rfl Tryz.call42 rfl (Aa2 _ T0) (A1 (B1 rfl hc) A7)) ?_
 refine R3 ?_
 refine A8 (A0 rfl) ?_ ?_
 ·intro h13
  have he : AD5 a b = (false, false) := qz174
  rw [he]
  refine R6 ?_
  exact W6 rfl D0 (B6 (A6 rfl B0) (B6 (A6 rfl B0) E8))
 intro h13
 have hg : W5 a = true ∧ W5 b = true := Av9
 have he : AD5 a b = (q8 a b, true) := (by unfold AD5; rw [if_pos (by rw [hg.1, hg.2]; rfl)])
 rw [he]
 refine R5 ?_
 refine A4 rfl (B2 rfl Tryz.call31 rfl (AO4 _ _ T0 T0) (A1 (A0 rfl) (A1 (A0 rfl) A7))) ?_
 refine R4 ?_
 exact W6 rfl D0 (B6 (A6 rfl B0) (B6 (A6 rfl B0) E8))
end Go.Proofs.YtcfkbhnpfjjmjaaGreat
namespace Go.M
open Go.AV
theorem AO5 {h : List C5} {n : Int} (hn : 0 ≤ n ∧ n < (h.length : Int)) : h[n.toNat]? = some (deedAt h n) := (o0 hn).2
theorem CD2 {l : List A9} (ha : adj wLess l = true) (k : Str) : gotOf l k = tell l k := by
  unfold gotOf tell
  cases hl : lookW l k with
  | some w =>
    obtain ⟨hw, hk⟩ := n9 hl
    obtain ⟨i, hi⟩ := List.getElem?_of_mem hw
    have h1 : wHas l k = true := by rw [BW0 ha]; exact p5.2 ⟨w, hw, hk⟩
    rw [if_pos h1]
    obtain ⟨y, hy, hyk⟩ := AQ0.1 h1
    rw [hy]
    have := AU0 ha (C6 hy)
    rw [hyk, hl] at this
    injection this with this
    subst this; rfl
  | none =>
    rw [if_neg]
    intro h1
    obtain ⟨y, hy, hyk⟩ := AQ0.1 h1
    exact Am6 hl y (C6 hy) hyk
theorem got_ne (a b : G4) : (!(a.Key == b.Key && (a.Val == b.Val && (a.There == b.There && true)))) = !decide (a = b) := by
  congr 1
  cases a; cases b
  rw [Bool.eq_iff_iff]
  simp only [Bool.and_eq_true, beq_iff_eq, decide_eq_true_eq, G4.mk.injEq, and_true]
end Go.M
namespace Go.Proofs.YtcfkbhnpfjjmjaaGreat
open Go Go.AV Go.M
attribute [local irreducible] OpW OpA OpS AWP B9 J5 C8 OpE RetOk H1 I9 Le Ev F6 J9
theorem Bb7 (h : List C5) (hl : h.length ≤ 1000) : C8 Tryz.prog 35 [AV.list 8 (h.map C5.cs)] [] (fun _ : Value => True) (fun v => [.arr v 3 1 ((m6 h).map fun n => [AV.int n])]) (fun v => AV.is v) := by
 refine C3 Tryz.func35 rfl Tryz.ntmps35 rfl ?_
 refine R2 ?_
 refine A4 rfl (D4 rfl F4) ?_
 refine R3 ?_
 refine N8 rfl rfl rfl rfl B3 B4 ?_
 intro v6
 refine R10 ?_
 refine AWP.le (C1 [0] rfl) ?_
 refine T8 [(2, _), (7, _), (8, _)] _ (fun (i : Nat) (v : Value) (ns : List Int) => i ≤ h.length ∧ ns = yesTo h i) (fun (i : Nat) (v : Value) (ns : List Int) => [.arr v 3 1 (ns.map fun n => [AV.int n])]) (fun (i : Nat) (v : Value) (ns : List Int) => [(3, AV.is v), (9, AV.int i)]) (fun (i : Nat) (v : Value) (ns : List Int) => h.length - i) (0) (v6) ([]) ?_ (I8 B0 ⟨rfl, rfl, rfl, rfl, rfl, trivial⟩) ?_
 ·exact ⟨Nat.zero_le _, rfl⟩
 intro i v ns hinv
 refine R5 ?_
 refine A8 (A0 rfl) ?_ ?_
 ·intro h10
  have k10 := of_decide_eq_true h10; try simp only [A5] at k10
  have hlt : i < h.length := AD1
  obtain ⟨x, hx⟩ := get_some hlt
  have hnl : ns.length ≤ 1000 := (by rw [hinv.2]; have := CK1 h i; omega)
  refine R6 ?_
  refine A4 rfl (C7 rfl H5 I3 (A0 rfl) (A0 rfl) hx qz4) ?_
  refine R2 ?_
  intro b5
  refine R8 ?_
  refine A8 (A0 rfl) ?_ ?_
  ·intro h15
   refine R4 ?_
   refine G0 (by' := 8) 1 rfl rfl rfl rfl B3 Tryz.type3 rfl rfl rfl rfl rfl rfl (A0 rfl) (A0 rfl) rfl (by simp only [A5, P0]; omega) ?_
   intro v19_1
   refine R6 ?_
   refine N7 i v ns (i + 1) (v19_1) (ns ++ [(i : Int)]) ?_ ?_ (Le.trans (C1 [0, 0] rfl) (E3 1 AX9 ⟨rfl, rfl, rfl, rfl, rfl, trivial⟩))
   ·first | exact ⟨by omega, by rw [BY6 hx h15, hinv.2]⟩ | exact ⟨by omega, by rw [Bm4 hx h15, hinv.2]⟩
   omega
  intro h15
  refine R5 ?_
  refine N7 i v ns (i + 1) (v) (ns) ?_ ?_ (Le.trans (C1 [0, 0] rfl) (E3 1 AX9 ⟨rfl, rfl, rfl, rfl, rfl, trivial⟩))
  ·first | exact ⟨by omega, by rw [BY6 hx h15, hinv.2]⟩ | exact ⟨by omega, by rw [Bm4 hx h15, hinv.2]⟩
  omega
 intro h10
 have k10 := of_decide_eq_false h10; try simp only [A5] at k10
 have hge : i = h.length := (by have h9 : h.length ≤ i := AD1; omega)
 have hns := hinv.2
 rw [hge, CK0] at hns
 rw [← hns]
 refine R7 ?_
 exact G1 [0] v (trivial) rfl B0 (E6 rfl (A6 rfl B0))
theorem BQ8 (h : List C5) (hl : h.length ≤ 1000) : B9 Tryz.prog 35 [AV.list 8 (h.map C5.cs)] (ints (m6 h)) :=
  K2 (Bb7 h hl) fun x _ => J3 (List.mem_singleton.2 rfl) F5
theorem BQ9 (g : G4) (rows : List A9) (ha : adj wLess rows = true) (hs : rows.length ≤ 1048576) : B9 Tryz.prog 87 [AV.agg g.cs, AV.eptr [AV.list 3 (rows.map A9.cs)]] (AV.bool (!decide (tell rows g.Key = g))) := by
  refine B7 Tryz.func87 rfl Tryz.ntmps87 rfl ?_
  refine R3 ?_
  intro b2
  refine R7 ?_
  refine C2 rfl rfl (B2 rfl Tryz.call88 rfl (Bz9 _ _ qz8) (A1 (A0 rfl) (A1 (A0 rfl) A7))) ?_
  refine R1 ?_
  refine C2 rfl rfl (BG4 rfl j7 F1 F1 (A0 rfl) (A0 rfl) (n5 F1 i5 rfl rfl (AX3 L8) (n5 F1 i5 rfl rfl (AX3 L8) (n5 F1 e8 rfl rfl (Ak0 T4) Ax0)))) ?_
  refine R3 ?_
  exact D5 rfl (A6 rfl (by exact congrArg AV.bool (by rw [← CD2 ha, ← got_ne])))
theorem Bb8 (d : C5) (rows : List A9) (ha : adj wLess rows = true) (hs : rows.length ≤ 1048576) : B9 Tryz.prog 61 [AV.agg d.cs, AV.list 3 (rows.map A9.cs)] (AV.bool (confirms rows d)) := by
  refine B7 Tryz.func61 rfl Tryz.ntmps61 rfl ?_
  refine R3 ?_
  intro b2
  refine Aw6 rfl rfl rfl rfl (A0 rfl) (AY2 _ _) ?_
  intro b3
  refine R6 ?_
  refine A4 rfl (Bd8 rfl rfl (A1 (A0 rfl) A7)) ?_
  refine A4 rfl (AG1 rfl Tryz.call86 rfl (AO0 d.Got (fun _ => True) (fun g => !decide (tell rows g.Key = g)) (fun _ _ => trivial)) (W9 _) (T2 (evb (A0 rfl)) (T2 (AV9 (BC6 0 (A0 rfl) rfl) (Aj9 Tryz.call87 (fun g (_ : True) => BQ9 g _ k0 T0))) i0))) ?_
  refine R4 ?_
  exact D5 rfl (A6 rfl (by exact congrArg AV.bool (by unfold confirms; rw [List.not_any_eq_all_not]; congr 1; funext g; rw [Bool.not_not])))
end Go.Proofs.YtcfkbhnpfjjmjaaGreat
namespace Go.M
open Go.AV
theorem An9 {α : Type} [DecidableEq α] : ∀ {a b : List α}, a.Nodup → (∀ x ∈ a, x ∈ b) → a.length ≤ b.length
  | [], _, _, _ => Nat.zero_le _
  | x :: a, b, hn, h => by
    have hn2 := List.nodup_cons.1 hn
    have h1 : a.length ≤ (b.erase x).length := An9 hn2.2 fun y hy => (List.mem_erase_of_ne (fun e => hn2.1 (by rw [← e]; exact hy))).2 (h y (List.mem_cons_of_mem _ hy))
    have h2 := List.length_erase_of_mem (h x List.mem_cons_self)
    have h3 : 0 < b.length := List.length_pos_of_mem (h x List.mem_cons_self)
    rw [H6]; omega
structure Alone (l : List TOp) (got : List G4) : Prop where
  nd : (got.map G4.Key).Nodup
  sub : ∀ g ∈ got, g.Key ∈ l.map TOp.Key
  size : ∀ g ∈ got, g.size ≤ 200
theorem Alone.len {l : List TOp} {got : List G4} (h : Alone l got) : got.length ≤ l.length := by
  have := An9 h.nd (b := l.map TOp.Key) fun k hk => by obtain ⟨g, hg, e⟩ := List.mem_map.1 hk; rw [← e]; exact h.sub g hg
  simpa using this
theorem Alone.nil (l : List TOp) : Alone l [] := ⟨List.nodup_nil, fun g h => (by cases h), fun g h => (by cases h)⟩
theorem Alone.snoc {l : List TOp} {got : List G4} {g : G4} (h : Alone l got) (hk : g.Key ∈ l.map TOp.Key) (hn : ∀ x ∈ got, x.Key ≠ g.Key) (hs : g.size ≤ 200) : Alone l (got ++ [g]) where
  nd := by
    rw [List.map_append]
    refine List.nodup_append.2 ⟨h.nd, by simp, fun a ha b hb => ?_⟩
    obtain ⟨x, hx, e⟩ := List.mem_map.1 ha
    have : b = g.Key := by simpa using hb
    rw [← e, this]; exact hn x hx
  sub := fun x hx => by
    rcases List.mem_append.1 hx with hx | hx
    · exact h.sub x hx
    · rw [List.mem_singleton.1 hx]; exact hk
  size := fun x hx => by
    rcases List.mem_append.1 hx with hx | hx
    · exact h.size x hx
    · rw [List.mem_singleton.1 hx]; exact hs
theorem BY8 {o : TOp} (h : OpD o) : AH6 64 o := by
  have hg : goodOps [o] = true := by unfold goodOps; rw [show ([o].any fun o => !isOp o) = false by simp [h.1]]; rfl
  have h9 := AG6 hg o List.mem_cons_self
  exact ⟨Nat.le_trans h9.size D0, h9.by', h9.key⟩
theorem CK2 {rows : List A9} {k : Str} {n : Nat} (h : ∀ w ∈ rows, w.size ≤ n) (hk : k.length ≤ 64) : (tell rows k).size ≤ n + 64 ∧ (tell rows k).Key = k := by
  unfold tell
  split
  · rename_i w hw
    have := h w (n9 hw).1
    unfold A9.size at this
    exact ⟨by unfold G4.size; dsimp only; omega, rfl⟩
  · exact ⟨by unfold G4.size; simp only [N1]; omega, rfl⟩
end Go.M
namespace Go.Proofs.YtcfkbhnpfjjmjaaGreat
open Go Go.AV Go.M
attribute [local irreducible] OpW OpA OpS AWP B9 J5 C8 OpE RetOk H1 I9 Le Ev F6 J9 V9 Int.tmod Int.tdiv IntKind.wrap bandI
theorem Bs6 (rows : List A9) (l : List TOp) (hr : ∀ w ∈ rows, w.size ≤ 64) (hl : l.length ≤ 8) (ho : ∀ o ∈ l, OpD o) : C8 Tryz.prog 104 [AV.list 3 (rows.map A9.cs), AV.list 4 (l.map TOp.cs)] [] (fun x : (List G4 × Int) × Value => Alone l x.1.1) (fun x => [.arr x.2 45 3 (x.1.1.map G4.cs)]) (fun x => AV.tup [AV.is x.2, AV.list 3 ((N9 l x.1.1).2.2.map A9.cs), AV.bool ((N9 l x.1.1).1 == 3)]) := by
 have hso : ∀ o ∈ l, AH6 64 o := fun o h => BY8 (ho o h)
 have hso2 : ∀ o ∈ l, AH6 1000 o := fun o h => ⟨Nat.le_trans (hso o h).size D0, (hso o h).by', (hso o h).key⟩
 refine C3 Tryz.func104 rfl Tryz.ntmps104 rfl ?_
 refine R2 ?_
 refine A4 rfl (D4 rfl F4) ?_
 refine A4 rfl (D4 rfl F4) ?_
 refine R4 ?_
 refine O8 45 3 rfl rfl rfl rfl F4 ?_
 intro v7
 refine R2 ?_
 refine AWP.le (C1 [0] rfl) ?_
 refine J7 [(0, _), (1, _)] _ (fun (got : List G4) (v : Value) => Alone l got) (fun (got : List G4) (v : Value) => [.arr v 45 3 (got.map G4.cs)]) (fun (got : List G4) (v : Value) => [(7, AV.is v)]) (fun (got : List G4) (v : Value) => l.length - got.length) ([]) (v7) ?_ (I8 B0 ⟨rfl, rfl, rfl, trivial⟩) ?_
 ·exact Alone.nil l
 intro got v hinv
 have hgl := hinv.len
 refine R5 ?_
 refine E4 [0] rfl rfl rfl rfl Tryz.call129 rfl (Af9 l v got qz8 hso2 (fun g hg => Nat.le_trans (hinv.size g hg) D0)) (A1 (A0 rfl) (A1 (A0 rfl) A7)) rfl ?_
 intro x14 ok14
 refine R14 ?_
 refine A8 (A0 rfl) ?_ ?_
 ·intro h19
  have k19 := AT0 h19; try simp only [A5] at k19
  refine R11 ?_
  exact G1 [0] (((got, 0), v)) (hinv) rfl B0 (N4 rfl D0 (B6 (A6 rfl B0) (B6 (A6 rfl B0) (B6 (A6 rfl B0) E8))))
 intro h19
 have k19 := s4 h19; try simp only [A5] at k19
 have hask : (N9 l got).1 = 1 := (by simpa using h19)
 have hrn := (ran (got := got) (n := 64) D0 hso).ask hask
 obtain ⟨⟨o, hom, hok⟩, hnk⟩ := hrn
 have hkl : (N9 l got).2.1.length ≤ 64 := (by rw [← hok]; have h9 := (hso o hom).key; omega)
 have hts := CK2 (rows := rows) hr hkl
 have hnx : Alone l (got ++ [tell rows (N9 l got).2.1]) := hinv.snoc (by rw [hts.2, ← hok]; exact List.mem_map.2 ⟨o, hom, rfl⟩) (fun x hx => by rw [hts.2]; exact hnk x hx) qz8
 refine R5 ?_
 refine A4 rfl (B2 rfl Tryz.call130 rfl (BA9 rows _) (A1 (A0 rfl) (A1 (A0 rfl) A7))) ?_
 refine R1 ?_
 refine G0 (by' := 40) 0 rfl rfl rfl rfl J6 Tryz.type45 rfl rfl rfl rfl rfl rfl (A0 rfl) (A0 rfl) rfl AY0 ?_
 intro v29_1
 refine R2 ?_
 refine AD6 ?_
 refine G9 got v (got ++ [tell rows (N9 l got).2.1]) (v29_1) ?_ ?_ (Le.trans (C1 [0] rfl) (I8 Ab1 ⟨rfl, rfl, rfl, trivial⟩))
 ·exact hnx
 (rw [G2]; simp; have h9 := hnx.len; rw [G2] at h9; simp at h9; omega)
theorem Bb9 (w : TWorld) (hw : WI w) : C8 Tryz.prog 126 [AV.agg w.cs] [] (fun _ : Value => True) (fun v => [.arr v 182 4 ((w.Groups.map AJ0).map G6.cs)]) (fun v => AV.is v) := by
 have hng := hw.n
 refine C3 Tryz.func126 rfl Tryz.ntmps126 rfl ?_
 refine R3 ?_
 intro b1
 refine A4 rfl (D4 rfl F4) ?_
 refine R3 ?_
 refine O8 182 4 rfl rfl rfl rfl F4 ?_
 intro v3
 refine R10 ?_
 refine AWP.le (C1 [0] rfl) ?_
 refine J7 [(2, _), (7, _), (8, _)] _ (fun (i : Nat) (v : Value) => i ≤ w.Groups.length) (fun (i : Nat) (v : Value) => [.arr v 182 4 (((w.Groups.take i).map AJ0).map G6.cs)]) (fun (i : Nat) (v : Value) => [(3, AV.is v), (9, AV.int i)]) (fun (i : Nat) (v : Value) => w.Groups.length - i) (0) (v3) ?_ (I8 B0 ⟨rfl, rfl, rfl, rfl, rfl, trivial⟩) ?_
 ·exact Nat.zero_le _
 intro i v hinv
 refine R5 ?_
 refine A8 (A0 rfl) ?_ ?_
 ·intro h10
  have k10 := of_decide_eq_true h10; try simp only [A5] at k10
  have hlt : i < w.Groups.length := AD1
  obtain ⟨g, hg⟩ := get_some hlt
  have hgg := (hw.groups g (C6 hg)).good
  refine R5 ?_
  refine A4 rfl (C7 rfl G8 C9 (A0 rfl) (A0 rfl) hg qz4) ?_
  refine R2 ?_
  intro b5
  refine R5 ?_
  refine A4 rfl (B2 rfl Tryz.call146 rfl (Au2 g hgg) (A1 (A0 rfl) A7)) ?_
  refine R1 ?_
  refine G0 (by' := 80) 1 rfl rfl rfl rfl Tryz.underlying140 Tryz.type182 rfl rfl rfl rfl rfl rfl (A0 rfl) (A0 rfl) rfl (by rw [A5, A5, H2]; simp only [P0]; omega) ?_
  intro v17_1
  refine R6 ?_
  refine G9 i v (i + 1) (v17_1) ?_ ?_ (Le.trans (C1 [0, 0] rfl) (E3 1 (by (rw [List.take_add_one, hg, List.map_append, List.map_append]; rfl)) ⟨rfl, rfl, rfl, rfl, rfl, trivial⟩))
  ·exact qz8
  omega
 intro h10
 have k10 := of_decide_eq_false h10; try simp only [A5] at k10
 have hge : w.Groups.length ≤ i := AD1
 rw [List.take_of_length_le hge]
 refine R7 ?_
 exact G1 [0] v (trivial) rfl B0 (E6 rfl (A6 rfl B0))
theorem BL5 (w : TWorld) (hw : WI w) : B9 Tryz.prog 126 [AV.agg w.cs] (AV.list 4 ((w.Groups.map AJ0).map G6.cs)) :=
  K2 (Bb9 w hw) fun v _ => J3 (List.mem_singleton.2 rfl) F5
theorem Bm6 (ss : List G6) (n : Int) (hl : ss.length ≤ 10) (hs : ∀ s ∈ ss, s.Told.length ≤ 100) : C8 Tryz.prog 127 [AV.list 4 (ss.map G6.cs), AV.int n] [] (fun x : (List M1 × Bool) × Value => x.1.1.length ≤ 10) (fun x => [.arr x.2 148 3 (x.1.1.map M1.cs)]) (fun x => AV.tup [AV.is x.2, AV.bool x.1.2]) := by
 refine C3 Tryz.func127 rfl Tryz.ntmps127 rfl ?_
 refine R2 ?_
 refine A4 rfl (D4 rfl F4) ?_
 refine R4 ?_
 refine O8 148 3 rfl rfl rfl rfl F4 ?_
 intro v6
 refine R9 ?_
 refine AWP.le (C1 [0] rfl) ?_
 refine T8 [(1, _), (4, _), (5, _), (13, _), (14, _)] _ (fun (i : Nat) (tl : List M1) (v : Value) => i ≤ ss.length ∧ tl.length ≤ i) (fun (i : Nat) (tl : List M1) (v : Value) => [.arr v 148 3 (tl.map M1.cs)]) (fun (i : Nat) (tl : List M1) (v : Value) => [(6, AV.is v), (15, AV.int i)]) (fun (i : Nat) (tl : List M1) (v : Value) => ss.length - i) (0) ([]) (v6) ?_ (I8 B0 ⟨rfl, rfl, rfl, rfl, rfl, rfl, rfl, trivial⟩) ?_
 ·exact ⟨Nat.zero_le _, Nat.le_refl _⟩
 intro i tl v hinv
 refine R5 ?_
 refine A8 (A0 rfl) ?_ ?_
 ·intro h16
  have k16 := of_decide_eq_true h16; try simp only [A5] at k16
  have hlt : i < ss.length := Aw0
  obtain ⟨s, hsx⟩ := get_some hlt
  have hst := hs s (C6 hsx)
  refine R5 ?_
  refine A4 rfl (C7 rfl Tryz.underlying140 P3 (A0 rfl) (A0 rfl) hsx qz4) ?_
  refine R2 ?_
  intro b8
  refine R6 ?_
  refine A4 rfl (B2 rfl Tryz.call147 rfl (m3 s n qz8) (A1 (A0 rfl) (A1 (A0 rfl) A7))) ?_
  refine R4 ?_
  intro b9
  refine R7 ?_
  refine A8 (A0 rfl) ?_ ?_
  ·intro h25
   refine R4 ?_
   refine G0 (by' := 24) 2 rfl rfl rfl rfl K8 Tryz.type148 rfl rfl rfl rfl rfl rfl (A0 rfl) (A0 rfl) rfl AY0 ?_
   intro v29_1
   refine R6 ?_
   refine N7 i tl v (i + 1) (tl ++ [(toldFO s.Told n).1]) (v29_1) ?_ ?_ (Le.trans (C1 [0, 0, 0] rfl) (E3 2 AX9 ⟨rfl, rfl, rfl, rfl, rfl, rfl, rfl, trivial⟩))
   ·exact ⟨by omega, by rw [G2]; simp; omega⟩
   omega
  intro h25
  refine R5 ?_
  refine N7 i tl v (i + 1) (tl) (v) ?_ ?_ (Le.trans (C1 [0, 0, 0] rfl) (E3 2 AX9 ⟨rfl, rfl, rfl, rfl, rfl, rfl, rfl, trivial⟩))
  ·exact ⟨by omega, by omega⟩
  omega
 intro h16
 have k16 := of_decide_eq_false h16; try simp only [A5] at k16
 refine R9 ?_
 refine AWP.le (C1 [0] rfl) ?_
 refine E5 [(6, _), (31, _), (32, _)] _ (fun (j : Nat) => j ≤ tl.length) (fun (j : Nat) => [.arr v 148 3 (tl.map M1.cs)]) (fun (j : Nat) => [(33, AV.int j)]) (fun (j : Nat) => tl.length - j) (0) ?_ (I8 B0 ⟨rfl, rfl, rfl, rfl, trivial⟩) ?_
 ·exact Nat.zero_le _
 intro j hinv
 refine R5 ?_
 refine A8 (A0 rfl) ?_ ?_
 ·intro h34
  have k34 := of_decide_eq_true h34; try simp only [A5] at k34
  have hlt1 : j < tl.length := (by simpa using h34)
  obtain ⟨x, hx⟩ := get_some hlt1
  obtain ⟨x0, hx0⟩ := get_some (show 0 < tl.length by omega)
  refine R5 ?_
  refine A4 rfl (D7 0 rfl K8 Q8 (A0 rfl) rfl (A0 rfl) qz8 g9) ?_
  refine A4 rfl (X5 0 rfl (A0 rfl) rfl Tryz.isAgg148 Q8 qz60 D0) ?_
  refine R1 ?_
  intro b12
  refine R6 ?_
  refine C2 rfl rfl (D7 1 rfl K8 Q8 (A0 rfl) rfl D8 qz8 g9) ?_
  refine C2 rfl rfl (X5 1 rfl (A0 rfl) rfl Tryz.isAgg148 Q8 qz60 D0) ?_
  refine C2 rfl rfl (BG4 rfl Tryz.underlying148 F1 F1 (A0 rfl) (A0 rfl) (n5 F1 H3 rfl rfl (Bt6 d4) (n5 F1 e8 rfl rfl (Ak0 T4) (n5 F1 H3 rfl rfl (Bt6 d4) Ax0)))) ?_
  refine R1 ?_
  refine A8 (A0 rfl) ?_ ?_
  ·intro h41
   refine R2 ?_
   refine A4 rfl (D4 rfl F4) ?_
   refine R3 ?_
   refine W7 148 3 ?_
   exact G1 [0] ((([], false), Value.slice none 0 0)) ((by first | exact Nat.zero_le _ | (show tl.length ≤ 10; omega))) rfl B0 (N4 rfl D0 (B6 (A6 rfl B0) (B6 (A6 rfl B0) E8)))
  intro h41
  refine R5 ?_
  refine F3 j (j + 1) ?_ ?_ (Le.trans (C1 [0, 0] rfl) (E3 1 B0 ⟨rfl, rfl, rfl, rfl, trivial⟩))
  ·exact qz8
  omega
 intro h34
 have k34 := of_decide_eq_false h34; try simp only [A5] at k34
 refine R8 ?_
 exact G1 [0] (((tl, true), v)) ((by first | exact Nat.zero_le _ | (show tl.length ≤ 10; omega))) rfl B0 (N4 rfl D0 (B6 (A6 rfl B0) (B6 (A6 rfl B0) E8)))
theorem Bc0 (ss : List G6) (n : Int) (hl : ss.length ≤ 10) (hs : ∀ s ∈ ss, s.Told.length ≤ 100) : C8 Tryz.prog 127 [AV.list 4 (ss.map G6.cs), AV.int n] [] (fun x : List M1 × Bool => x.1.length ≤ 10) (fun _ => []) (fun x => AV.tup [AV.list 3 (x.1.map M1.cs), AV.bool x.2]) :=
  u4 (fun x => x.1) (fun x => [.arr x.2 148 3 (x.1.1.map M1.cs)]) (fun _ => []) (Bm6 ss n hl hs) (fun _ h => h) (fun x _ => p4 (D1 (J3 (List.mem_singleton.2 rfl) F5) (D1 H0 V2))) (fun x _ => by rw [List.append_nil]) (fun _ _ => M9) (fun x _ => AY9)
theorem CD3 (cuts : List Str) (t : A3) (hb : SetB t) : B9 Tryz.prog 128 [strs cuts, AV.agg t.cs] (AV.tup [strs (readsR t.Got), AV.list 3 ((N9 t.Ops t.Got).2.2.map A9.cs), ints (r3 cuts t), AV.bool (AJ2 t)]) := by
 have hgl := hb.got.1
 have hrl := AW7 t.Got
 have hst := ran (got := t.Got) (n := 1000) D0 hb.ops
 have hwl : (N9 t.Ops t.Got).2.2.length ≤ 1000 := Nat.le_trans hst.len (by have := hb.len; omega)
 obtain ⟨S, hS⟩ : ∃ S, N9 t.Ops t.Got = S := ⟨_, rfl⟩
 have hstep := Bs2 t.Ops t.Got hb.len hb.ops hb.got.2
 have hbq : AJ2 t = ((N9 t.Ops t.Got).1 == 3 && decide (0 < ((((readsR t.Got).map fun t => [AV.str t]).length : Nat) : Int) + ((((N9 t.Ops t.Got).2.2.map A9.cs).length : Nat) : Int))) := by unfold AJ2; simp only [A5]
 rw [hbq]
 unfold r3
 rw [hS] at hstep hwl ⊢
 have hkl := Ac6 (readsR t.Got ++ M2 S.2.2)
 rw [G2, show (M2 S.2.2).length = S.2.2.length from A5 ..] at hkl
 refine B7 Tryz.func128 rfl Tryz.ntmps128 rfl ?_
 refine R3 ?_
 intro b3
 refine A4 rfl (D4 rfl (P8 (sz := 1))) ?_
 refine A4 rfl (D4 rfl (P8 (sz := 3))) ?_
 refine A4 rfl (D4 rfl (P8 (sz := 1))) ?_
 refine R8 ?_
 refine A4 rfl (B2 rfl Tryz.call129 rfl (hstep) (A1 (A0 rfl) (A1 (A0 rfl) A7))) ?_
 refine R10 ?_
 refine O8 9 1 rfl rfl rfl rfl F4 ?_
 intro v11
 refine R10 ?_
 refine AWP.le (C1 [0] rfl) ?_
 refine J7 [(0, _), (4, _), (5, _), (6, _), (7, _), (8, _), (10, _), (24, _), (25, _)] _ (fun (i : Nat) (v : Value) => i ≤ t.Got.length) (fun (i : Nat) (v : Value) => [.arr v 9 1 ((readsR (t.Got.take i)).map fun t => [AV.str t])]) (fun (i : Nat) (v : Value) => [(11, AV.is v), (26, AV.int i)]) (fun (i : Nat) (v : Value) => t.Got.length - i) (0) (v11) ?_ (I8 B0 ⟨rfl, rfl, rfl, rfl, rfl, rfl, rfl, rfl, rfl, rfl, rfl, trivial⟩) ?_
 ·exact Nat.zero_le _
 intro i v hinv
 refine R5 ?_
 refine A8 (A0 rfl) ?_ ?_
 ·intro h27
  have k27 := of_decide_eq_true h27; try simp only [A5] at k27
  have hlt : i < t.Got.length := (by simpa using h27)
  obtain ⟨g, hg⟩ := get_some hlt
  have hrs := BK6 (t.Got.take i)
  have hrn := AW7 (t.Got.take i)
  rw [H2] at hrn
  refine R5 ?_
  refine A4 rfl (C7 rfl J6 O5 (A0 rfl) (A0 rfl) hg qz4) ?_
  refine R2 ?_
  intro b13
  refine R6 ?_
  refine E4 [1] rfl rfl rfl rfl Tryz.call148 rfl (AB1 v (readsR (t.Got.take i)) g.Key hrs qz8) (A1 (A0 rfl) (A1 (A0 rfl) A7)) rfl ?_
  intro x33 ok33
  refine R6 ?_
  refine G9 i v (i + 1) (x33) ?_ ?_ (Le.trans (C1 [1, 0] rfl) (E3 1 (by (rw [BK7 hg]; rfl)) ⟨rfl, rfl, rfl, rfl, rfl, rfl, rfl, rfl, rfl, rfl, rfl, trivial⟩))
  ·exact qz8
  omega
 intro h27
 have k27 := of_decide_eq_false h27; try simp only [A5] at k27
 have hge : t.Got.length ≤ i := (by simpa using h27)
 rw [List.take_of_length_le hge]
 refine R2 ?_
 refine AWP.le (f0 [0] 11 rfl rfl (J3 (C6 (i := 0) rfl) F5) Ac1) ?_
 refine R6 ?_
 refine A4 rfl (B2 rfl Tryz.call150 rfl (Ao9 (readsR t.Got) S.2.2 qz8 qz8) (A1 (A0 rfl) (A1 (A0 rfl) A7))) ?_
 refine A4 rfl (B2 rfl Tryz.call149 rfl (Ap0 cuts _ qz8) (A1 (A0 rfl) (A1 (A0 rfl) A7))) ?_
 refine R16 ?_
 exact W6 rfl D0 (B6 (A6 rfl B0) (B6 (A6 rfl B0) (B6 (A6 rfl B0) (B6 (A6 rfl B0) E8))))
end Go.Proofs.YtcfkbhnpfjjmjaaGreat
namespace Go.M
open Go.AV
def d7 (h : List C5) : Prop := BM7 h ∧ ∀ d ∈ h, d.size ≤ 5000
theorem CD4 : d7 [] := ⟨fun d hd => (by cases hd), fun d hd => (by cases hd)⟩
theorem d7.snoc {h : List C5} {d : C5} (H : d7 h) (hk : ∀ w ∈ d.Writes, w.Key ∈ keyD) (hs : d.size ≤ 5000) : d7 (h ++ [d]) := ⟨fun x hx => by
  rcases List.mem_append.1 hx with hx | hx
  · exact H.1 x hx
  · rw [List.mem_singleton.1 hx]; exact hk, fun x hx => by
  rcases List.mem_append.1 hx with hx | hx
  · exact H.2 x hx
  · rw [List.mem_singleton.1 hx]; exact hs⟩
theorem Bc1 {n : Nat} {c : Int} {t : A3} (h : Av7 n c t) {a b e tm : Int} : (C5.mk a b e true false tm t.Got (N9 t.Ops t.Got).2.2).size ≤ 5000 := by
  have h2 := a9 (f := G4.size) (c := 64) (l := t.Got) h.got.2
  have h3 : t.Got.length * (64 + 1) ≤ 8 * 65 := Nat.mul_le_mul_right _ h.got.1
  have hr := ran (got := t.Got) (n := 36) D0 (AG6 h.ops.1)
  have h4 := a9 (f := A9.size) (c := 36) (l := (N9 t.Ops t.Got).2.2) hr.size
  have h5 : t.Ops.length ≤ 8 := by have h9 := h.ops.1; unfold goodOps at h9; rw [Bool.and_eq_true, decide_eq_true_eq] at h9; have := h9.1; omega
  have h6 : (N9 t.Ops t.Got).2.2.length * (36 + 1) ≤ 8 * 37 := Nat.mul_le_mul_right _ (by have := hr.len; omega)
  show sizeL G4.size t.Got + sizeL A9.size (N9 t.Ops t.Got).2.2 ≤ 5000
  omega
theorem BR0 {n : Nat} {c : Int} {t : A2} (h : LkOk n c t) {a b e tm : Int} : (C5.mk a b e true true tm t.Got []).size ≤ 5000 := by
  have h2 := a9 (f := G4.size) (c := 64) (l := t.Got) h.got.2
  have h3 : t.Got.length * (64 + 1) ≤ 8 * 65 := Nat.mul_le_mul_right _ (by have := h.got.1; have := h.keys.1; omega)
  show sizeL G4.size t.Got + sizeL A9.size [] ≤ 5000
  have : sizeL A9.size [] = 0 := rfl
  omega
theorem BY9 {own : List Go.AV.Own} {h : List C5} {row : List AV} {d : C5} (hr : Z9 own row d.cs) : AS8 own (h.map C5.cs ++ [row]) ((h ++ [d]).map C5.cs) := by
  rw [List.map_append]
  refine ⟨by simp, fun i e f h1 h2 => ?_⟩
  by_cases hi : i < (h.map C5.cs).length
  · rw [List.getElem?_append_left hi] at h1 h2
    rw [h1] at h2; injection h2 with h2; subst h2; exact f6
  · rw [List.getElem?_append_right qz8] at h1 h2
    cases hk : i - (h.map C5.cs).length with
    | zero => rw [hk] at h1 h2; injection h1 with h1; injection h2 with h2; subst h1; subst h2; exact hr
    | succ m => rw [hk] at h1; cases h1
end Go.M
namespace Go.Proofs.YtcfkbhnpfjjmjaaGreat
open Go Go.AV Go.M
attribute [local irreducible] OpW OpA OpS AWP B9 J5 C8 OpE RetOk H1 I9 Le Ev F6 J9 V9 Int.tmod Int.tdiv IntKind.wrap bandI
theorem CK3 (w : TWorld) (hw : WI w) : C8 Tryz.prog 103 [AV.agg w.cs] [] (fun x : List C5 × Value => x.1.length ≤ 10 ∧ d7 x.1) (fun x => [.arr x.2 36 8 (x.1.map C5.cs)]) (fun x => AV.is x.2) := by
 have hng := hw.n
 have htl := hw.txns.1
 have hll := hw.looks.1
 have hsl : (w.Groups.map AJ0).length ≤ 10 := by rw [A5]; omega
 have hst : ∀ s ∈ w.Groups.map AJ0, s.Told.length ≤ 100 := fun s hs => by
  obtain ⟨g, hg, rfl⟩ := List.mem_map.1 hs
  exact Nat.le_trans (BV2 (hw.groups g hg).good).tlen D0
 refine C3 Tryz.func103 rfl Tryz.ntmps103 rfl ?_
 refine R3 ?_
 intro b1
 refine A4 rfl (D4 rfl F4) ?_
 refine R3 ?_
 refine O8 36 8 rfl rfl rfl rfl F4 ?_
 intro v3
 refine R4 ?_
 refine A4 rfl (B2 rfl Tryz.call126 rfl (BL5 w hw) (A1 (A0 rfl) A7)) ?_
 refine R11 ?_
 refine AWP.le (C1 [0] rfl) ?_
 refine T8 [(1, _), (2, _), (4, _), (19, _), (20, _)] _ (fun (i : Nat) (h : List C5) (v : Value) => (i ≤ w.Txns.length ∧ h.length ≤ i) ∧ d7 h) (fun (i : Nat) (h : List C5) (v : Value) => [.arr v 36 8 (h.map C5.cs)]) (fun (i : Nat) (h : List C5) (v : Value) => [(3, AV.is v), (21, AV.int i)]) (fun (i : Nat) (h : List C5) (v : Value) => w.Txns.length - i) (0) ([]) (v3) ?_ (I8 B0 ⟨rfl, rfl, rfl, rfl, rfl, rfl, rfl, trivial⟩) ?_
 ·exact ⟨⟨Nat.zero_le _, Nat.le_refl _⟩, CD4⟩
 intro i h v hinv
 refine R5 ?_
 refine A8 (A0 rfl) ?_ ?_
 ·intro h22
  have k22 := of_decide_eq_true h22; try simp only [A5] at k22
  have hlt : i < w.Txns.length := Ai1
  obtain ⟨t, ht⟩ := get_some hlt
  have htk := hw.txns.2 t (C6 ht)
  have hgl := htk.got.1
  refine R6 ?_
  refine A4 rfl (C7 rfl K4 O6 (A0 rfl) (A0 rfl) ht qz4) ?_
  refine R2 ?_
  intro b6
  refine R10 ?_
  refine A8 (A0 rfl) ?_ ?_
  ·intro h28
   have k28 := of_decide_eq_true h28; try simp only [A5] at k28
   refine R5 ?_
   refine N7 i h v (i + 1) (h) (v) ?_ ?_ (Le.trans (C1 [0, 0] rfl) (E3 1 AX9 ⟨rfl, rfl, rfl, rfl, rfl, rfl, rfl, trivial⟩))
   ·exact ⟨⟨by omega, by omega⟩, hinv.2⟩
   omega
  intro h28
  have k28 := of_decide_eq_false h28; try simp only [A5] at k28
  refine R11 ?_
  intro b7
  refine R3 ?_
  refine AWP.le (AG3 0 6 3 rfl rfl M9) ?_
  refine AWP.le (AG3 0 7 3 rfl rfl M9) ?_
  refine R4 ?_
  refine E4 [] rfl rfl rfl rfl Tryz.call127 rfl (Bc0 (w.Groups.map AJ0) ((i : Int) + 1) hsl hst) (A1 (A0 rfl) (A1 (A0 rfl) A7)) rfl ?_
  intro x40 ok40
  obtain ⟨td, htd⟩ := AL6 x40.1 0
  refine R14 ?_
  refine L3 rfl (fun hc => C7 rfl K8 Q8 (B1 rfl hc) D8 (htd (by simp at hc; omega)) qz6) ?_
  refine R4 ?_
  refine A8 (A0 rfl) ?_ ?_
  ·intro h51
   have htd1 := htd (by simp at h51; have h9 := h51.1; omega)
   refine R5 ?_
   refine A4 rfl (B2 rfl Tryz.call128 rfl (CD3 w.Cuts t htk.sb) (A1 (A0 rfl) (A1 (A0 rfl) A7))) ?_
   refine R18 ?_
   refine A4 rfl (C7 rfl K8 Q8 (A0 rfl) D8 htd1 qz4) ?_
   refine R7 ?_
   refine N8 rfl rfl rfl rfl J6 O5 ?_
   intro v67
   refine R2 ?_
   refine G0 (by' := 40) 0 rfl rfl rfl rfl J6 Tryz.type45 rfl rfl rfl rfl rfl rfl (A0 rfl) (A0 rfl) rfl qz4 ?_
   intro v70_1
   refine R1 ?_
   refine S4 0 rfl fun one_v70_1 => ?_
   refine P6 1 rfl rfl rfl (A0 rfl) (A0 rfl) (M0 one_v70_1) rfl O0 rfl ?_
   refine R1 ?_
   refine AWP.le (AP8 [0] 0 (.box b7 36 [AV.int ((i : Int) + 1), AV.int t.Begin, AV.int t.End, AV.bool true, AV.bool false, AV.int td.Time, AV.list 3 (t.Got.map G4.cs), AV.list 3 []]) rfl rfl ⟨rfl, rfl, (D1 H0 (D1 H0 (D1 H0 (D1 H0 (D1 H0 (D1 H0 (D1 (J3 (C6 (i := 0) rfl) F5) (D1 H0 V2))))))))⟩ M9) ?_
   refine R9 ?_
   refine G0 (by' := 88) 2 rfl rfl rfl rfl H5 Tryz.type36 rfl rfl rfl rfl rfl rfl (A0 rfl) (A0 rfl) rfl AY0 ?_
   intro v77_2
   refine R6 ?_
   refine N7 i h v (i + 1) (h ++ [⟨(i : Int) + 1, t.Begin, t.End, true, false, td.Time, t.Got, (N9 t.Ops t.Got).2.2⟩]) (v77_2) ?_ ?_ (Le.trans (C1 [0, 0, 0] rfl) (E3 2 AX9 ⟨rfl, rfl, rfl, rfl, rfl, rfl, rfl, trivial⟩))
   ·exact ⟨⟨by omega, by rw [G2]; simp; omega⟩, hinv.2.snoc (An6 htk.ops.2) (Bc1 htk)⟩
   omega
  intro h51
  refine R5 ?_
  refine G0 (by' := 88) 2 rfl rfl rfl rfl H5 Tryz.type36 rfl rfl rfl rfl rfl rfl (A0 rfl) (A0 rfl) rfl AY0 ?_
  intro v77_3
  refine R6 ?_
  refine N7 i h v (i + 1) (h ++ [⟨(i : Int) + 1, t.Begin, t.End, false, false, 0, [], []⟩]) (v77_3) ?_ ?_ (Le.trans (C1 [0, 0, 0] rfl) (E3 2 AX9 ⟨rfl, rfl, rfl, rfl, rfl, rfl, rfl, trivial⟩))
  ·exact ⟨⟨by omega, by rw [G2]; simp; omega⟩, hinv.2.snoc (fun w9 hw9 => by cases hw9) (show (0 : Nat) ≤ 5000 by decide)⟩
  omega
 intro h22
 have k22 := of_decide_eq_false h22; try simp only [A5] at k22
 refine R10 ?_
 refine AWP.le (C1 [0] rfl) ?_
 refine T8 [(2, _), (80, _), (81, _)] _ (fun (j : Nat) (h1 : List C5) (u : Value) => (j ≤ w.Looks.length ∧ h1.length ≤ 6 + j) ∧ d7 h1) (fun (j : Nat) (h1 : List C5) (u : Value) => [.arr u 36 8 (h1.map C5.cs)]) (fun (j : Nat) (h1 : List C5) (u : Value) => [(3, AV.is u), (82, AV.int j)]) (fun (j : Nat) (h1 : List C5) (u : Value) => w.Looks.length - j) (0) (h) (v) ?_ (I8 B0 ⟨rfl, rfl, rfl, rfl, rfl, trivial⟩) ?_
 ·exact ⟨⟨Nat.zero_le _, by omega⟩, hinv.2⟩
 intro j h1 u hinv
 refine R5 ?_
 refine A8 (A0 rfl) ?_ ?_
 ·intro h83
  have k83 := of_decide_eq_true h83; try simp only [A5] at k83
  have hlt1 : j < w.Looks.length := (by simpa using h83)
  obtain ⟨q, hq⟩ := get_some hlt1
  have hqk := hw.looks.2 q (C6 hq)
  have hqg := hqk.got.1
  have hqn := hqk.keys.1
  refine R6 ?_
  refine A4 rfl (C7 rfl i7 Tryz.sizeOf152 (A0 rfl) (A0 rfl) hq qz4) ?_
  refine R2 ?_
  intro b15
  refine R18 ?_
  refine A8 (A0 rfl) ?_ ?_
  ·intro h98
   refine AWP.le (C1 [0] rfl) ?_
   refine M7 _ [(0, false), (1, false), (2, false), (3, false), (4, false), (5, false), (6, false), (7, false), (8, false), (10, false), (11, false), (9, true), (12, true), (13, false), (14, false), (15, true)] F1 F1 rfl (P1 1) ?_
   refine R11 ?_
   refine S1 rfl rfl rfl (a8 rfl J6 O5) (fun a _ => qz3) ?_
   intro v108 _
   refine S1 rfl rfl rfl (AE3 [3] (fun _ => rfl) (fun _ => J3 (C6 (i := 0) rfl) F5) (fun _ => M9) (J8 (by' := 40) 3 rfl J6 Tryz.type45 rfl rfl rfl rfl rfl rfl (A0 rfl) (A0 rfl) rfl qz4)) (fun a _ => qz3) ?_
   intro v111_4 _
   refine R2 ?_
   refine S1 rfl rfl rfl (J8 (by' := 88) 1 rfl H5 Tryz.type36 rfl rfl rfl rfl rfl rfl (A0 rfl) (A0 rfl) rfl AY0) (fun a _ => qz3) ?_
   intro v114_5 _
   refine R3 ?_
   refine AWP.le (AK2 3 1 (.arr v114_5 36 8 (_)) rfl (⟨rfl, rfl, rfl, by first | exact BY9 (h := h1) (d := ⟨50 + (j : Int), q.Begin, q.End, true, true, q.Time, q.Got, []⟩) (D1 H0 (D1 H0 (D1 H0 (D1 H0 (D1 H0 (D1 H0 (D1 H0 (D1 Ax1 V2)))))))) | exact F5⟩) M9) ?_
   refine R4 ?_
   refine N7 j h1 u (j + 1) (h1 ++ [⟨50 + (j : Int), q.Begin, q.End, true, true, q.Time, q.Got, []⟩]) (v114_5) ?_ ?_ (Le.trans (C1 [0, 0] rfl) (E3 1 B0 ⟨rfl, rfl, rfl, rfl, rfl, trivial⟩))
   ·exact ⟨⟨by omega, by rw [G2]; simp; omega⟩, hinv.2.snoc (fun w9 hw9 => by cases hw9) (BR0 hqk)⟩
   omega
  intro h98
  refine R1 ?_
  refine AWP.le (AK2 3 1 (.arr u 36 8 (_)) rfl (⟨rfl, rfl, rfl, by first | exact BY9 (h := h1) (d := ⟨50 + (j : Int), q.Begin, q.End, true, true, q.Time, q.Got, []⟩) (D1 H0 (D1 H0 (D1 H0 (D1 H0 (D1 H0 (D1 H0 (D1 H0 (D1 Ax1 V2)))))))) | exact F5⟩) M9) ?_
  refine R4 ?_
  refine N7 j h1 u (j + 1) (h1) (u) ?_ ?_ (Le.trans (C1 [0, 0] rfl) (E3 1 B0 ⟨rfl, rfl, rfl, rfl, rfl, trivial⟩))
  ·exact ⟨⟨by omega, by omega⟩, hinv.2⟩
  omega
 intro h83
 have k83 := of_decide_eq_false h83; try simp only [A5] at k83
 refine R7 ?_
 exact G1 [0] ((h1, u)) (⟨by (show h1.length ≤ 10; omega), hinv.2⟩) rfl B0 (E6 rfl (A6 rfl B0))
end Go.Proofs.YtcfkbhnpfjjmjaaGreat
namespace Go.M
open Go.AV
def BN2 (rows : List A9) : Prop := (adj wLess rows = true ∧ ∀ w ∈ rows, w.size ≤ 64) ∧ rows.length ≤ 1000000
theorem CK4 {rows ws : List A9} (h : BN2 rows) (hw : ∀ w ∈ ws, w.size ≤ 64) (hl : rows.length + ws.length ≤ 1000000) : BN2 (putD rows ws) := by
  refine ⟨⟨AQ3 h.1.1, fun w hm => ?_⟩, ?_⟩
  · unfold putD q6 at hm
    rcases Al7 (List.mem_filter.1 hm).1 with hm | hm
    · exact hw w hm
    · exact h.1.2 w hm
  · have h1 := BD4 (ws := ws) (l := rows)
    have h2 : (putD rows ws).length ≤ (insL rows ws).length := List.length_filter_le _ _
    omega
theorem putD_len {rows ws : List A9} : (putD rows ws).length ≤ rows.length + ws.length := by
  have h1 := BD4 (ws := ws) (l := rows)
  have h2 : (putD rows ws).length ≤ (insL rows ws).length := List.length_filter_le _ _
  omega
theorem CK5 {l : List TOp} {got : List G4} (hl : l.length ≤ 4) (ho : ∀ o ∈ l, OpD o) : (∀ w ∈ (N9 l got).2.2, w.size ≤ 64) ∧ (N9 l got).2.2.length ≤ 4 ∧ ∀ w ∈ (N9 l got).2.2, w.Key ∈ keyD := by
  have hr := ran (got := got) (n := 64) D0 fun o h => BY8 (ho o h)
  exact ⟨hr.size, by have := hr.len; omega, An6 fun o h => (ho o h).2.1⟩
theorem CD5 {l : List TOp} {got : List G4} (hl : l.length ≤ 4) (ha : Alone l got) {ws : List A9} (hw : (∀ w ∈ ws, w.size ≤ 64) ∧ ws.length ≤ 4) {a b e tm : Int} {y k : Bool} : (C5.mk a b e y k tm got ws).size ≤ 2000 := by
  have h1 := a9 (f := G4.size) (c := 200) (l := got) ha.size
  have h2 : got.length * (200 + 1) ≤ 4 * 201 := Nat.mul_le_mul_right _ (Nat.le_trans ha.len hl)
  have h3 := a9 (f := A9.size) (c := 64) (l := ws) hw.1
  have h4 : ws.length * (64 + 1) ≤ 4 * 65 := Nat.mul_le_mul_right _ hw.2
  show sizeL G4.size got + sizeL A9.size ws ≤ 2000
  omega
def Ab0 (h : List C5) : Prop := BM7 h ∧ ∀ d ∈ h, d.size ≤ 2000
theorem Ab0.snoc {h : List C5} {d : C5} (H : Ab0 h) (hk : ∀ w ∈ d.Writes, w.Key ∈ keyD) (hs : d.size ≤ 2000) : Ab0 (h ++ [d]) := ⟨fun x hx => by
  rcases List.mem_append.1 hx with hx | hx
  · exact H.1 x hx
  · rw [List.mem_singleton.1 hx]; exact hk, fun x hx => by
  rcases List.mem_append.1 hx with hx | hx
  · exact H.2 x hx
  · rw [List.mem_singleton.1 hx]; exact hs⟩
theorem Ab0.big {h : List C5} (H : Ab0 h) : d7 h := ⟨H.1, fun d hd => Nat.le_trans (H.2 d hd) D0⟩
def yesLook (d : C5) : C5 := { d with Yes := d.Look }
def setVal (d : C5) (v : Str) : C5 := { d with Yes := d.Look, Got := match d.Got with | [] => [] | g :: r => ⟨g.Key, v, g.There⟩ :: r }
theorem BZ0 {h : List C5} (H : Ab0 h) {k : Nat} {d d' : C5} (hd : h[k]? = some d) (hw : d'.Writes = d.Writes) (hs : d'.size ≤ d.size + 64) : d7 (h.set k d') := ⟨p6 (P := fun d : C5 => ∀ w ∈ d.Writes, w.Key ∈ keyD) H.1 (by rw [hw]; exact H.1 d (C6 hd)), p6 (P := fun d : C5 => d.size ≤ 5000) (fun x hx => Nat.le_trans (H.2 x hx) D0) (by have := H.2 d (C6 hd); omega)⟩
theorem Bs7 (d : C5) {v : Str} (h : v.length ≤ 64) : (setVal d v).size ≤ d.size + 64 := by
  obtain ⟨a, b, c, y, k, t, got, ws⟩ := d
  cases got with
  | nil => show sizeL G4.size [] + sizeL A9.size ws ≤ sizeL G4.size [] + sizeL A9.size ws + 64; omega
  | cons g r =>
    show sizeL G4.size (⟨g.Key, v, g.There⟩ :: r) + sizeL A9.size ws ≤ sizeL G4.size (g :: r) + sizeL A9.size ws + 64
    rw [Q7, Q7]
    have : G4.size ⟨g.Key, v, g.There⟩ ≤ g.size + 64 := by unfold G4.size; dsimp only; omega
    omega
def WsD (ws : List A9) : Prop := (∀ w ∈ ws, w.size ≤ 64) ∧ ws.length ≤ 4 ∧ ∀ w ∈ ws, w.Key ∈ keyD
theorem BR1 : WsD [] := ⟨fun w h => (by cases h), Nat.zero_le _, fun w h => (by cases h)⟩
end Go.M
namespace Go.Proofs.YtcfkbhnpfjjmjaaGreat
open Go Go.AV Go.M
attribute [local irreducible] OpW OpA OpS AWP B9 J5 C8 OpE RetOk H1 I9 Le Ev F6 J9 V9 Int.tmod Int.tdiv IntKind.wrap bandI
def C5.ocs (d : C5) (y : Value) : List AV := [AV.int d.Txn, AV.int d.Begin, AV.int d.End, AV.bool d.Yes, AV.bool d.Look, AV.int d.Time, AV.is y, AV.list 3 (d.Writes.map A9.cs)]
def C5.ow (d : C5) (y : Value) : List Go.AV.Own := [.arr y 45 3 (d.Got.map G4.cs)]
theorem C5.lcM {own : List Go.AV.Own} (d : C5) (y : Value) (h : ∀ o ∈ C5.ow d y, o ∈ own) : Z9 own (C5.ocs d y) d.cs := D1 H0 (D1 H0 (D1 H0 (D1 H0 (D1 H0 (D1 H0 (D1 (J3 (h _ (C6 (i := 0) rfl)) F5) f6))))))
theorem BB4 {d : C5} {g : G4} {v : Str} (h : d.Got[0]? = some g) : (setVal d v).Got.map G4.cs = (d.Got.map G4.cs).set 0 [AV.str g.Key, AV.str v, AV.bool g.There] := by
  obtain ⟨a, b, c, y, k, t, got, ws⟩ := d
  cases got with
  | nil => simp at h
  | cons x r => simp at h; subst h; rfl
theorem lend_l9 {own : List Go.AV.Own} {a b c : List (List AV)} (e : a = b) (h : AS8 own b c) : AS8 own a c := e ▸ h
theorem Bc2 (rows ws : List A9) (h : BN2 rows) (hw : ws.length ≤ 1000) : B9 Tryz.prog 106 [AV.list 3 (rows.map A9.cs), AV.list 3 (ws.map A9.cs)] (AV.list 3 ((putD rows ws).map A9.cs)) := by
  have h1 := Ah4 rows ws (by have := h.2; omega) qz8
  rw [Ar6 h.1.1] at h1
  exact h1
theorem BR2 (b : Nat) (code : List Int) (hcode : Y4 code) (c : N0) (hp : c.p ≤ 900000) : C8 Tryz.prog 70 [AV.ptr b 0] [.box b 55 (Q5 code c)] (fun x : N0 × List C5 × Value => x.1.p ≤ c.p + 3000 ∧ x.2.1.length ≤ 10 ∧ d7 x.2.1) (fun x => [.box b 55 (Q5 code x.1), .arr x.2.2 36 8 (x.2.1.map C5.cs)]) (fun x => AV.is x.2.2) := by
 refine C3 Tryz.func70 rfl Tryz.ntmps70 rfl ?_
 refine R2 ?_
 refine A4 rfl (D4 rfl F4) ?_
 refine R5 ?_
 refine E4 [0] rfl rfl rfl rfl Tryz.call53 rfl (AB0 _ _ hcode _ _ qz8 qz8) (A1 (A0 rfl) (A1 D8 A7)) rfl ?_
 intro x13 ok13
 refine R1 ?_
 refine A8 (A0 rfl) ?_ ?_
 ·intro h13
  refine R3 ?_
  refine E4 [0] rfl rfl rfl rfl Tryz.call102 rfl (Bm3 _ _ hcode _ qz8) (A1 (A0 rfl) A7) rfl ?_
  intro x15 ok15
  refine R1 ?_
  intro b3
  refine R5 ?_
  refine E4 [] rfl rfl rfl rfl Tryz.call103 rfl (CK3 x15.2 ok15.2.1) (A1 (A0 rfl) A7) rfl ?_
  intro x17 ok17
  refine R3 ?_
  exact G1 [2, 0] ((x15.1, x17.1, x17.2)) (qz86) rfl B0 (E6 rfl (A6 rfl B0))
 intro h13
 refine R3 ?_
 refine O8 36 8 rfl rfl rfl rfl F4 ?_
 intro v4
 refine R3 ?_
 refine A4 rfl (D4 rfl (P8 (sz := 3))) ?_
 refine R5 ?_
 refine E4 [1] rfl rfl rfl rfl Tryz.call22 rfl (L1 _ _ hcode _ _ qz8 qz8) (A1 (A0 rfl) (A1 D8 A7)) rfl ?_
 intro x19 ok19
 obtain ⟨n0, hn0⟩ : ∃ n0 : Nat, x19.2 = n0 := ⟨x19.2.toNat, by omega⟩
 refine R4 ?_
 refine AWP.le (C1 [0, 0] rfl) ?_
 refine Bn7 [(0, _), (2, _)] [] (fun (n : Nat) (S : N0 × List A9) (h : List C5) (Y : List Value) (v : Value) => ((n + h.length = 1 + n0 ∧ n0 ≤ 4) ∧ S.1.p ≤ c.p + 10 + 150 * h.length) ∧ Y.length = h.length ∧ Ab0 h ∧ BN2 S.2 ∧ S.2.length ≤ 4 * h.length) (fun (n : Nat) (S : N0 × List A9) (h : List C5) (Y : List Value) (v : Value) => [.box b 55 (Q5 code S.1), .arr v 36 8 (nrows C5.ocs h Y)] ++ (nin C5.ow h Y)) (fun (n : Nat) (S : N0 × List A9) (h : List C5) (Y : List Value) (v : Value) => [(4, AV.is v), (5, AV.list 3 (S.2.map A9.cs)), (6, AV.int n)]) (fun (n : Nat) (S : N0 × List A9) (h : List C5) (Y : List Value) (v : Value) => n) (1 + n0) ((x19.1, [])) ([]) ([]) (v4) ?_ (I8 B0 ⟨rfl, rfl, congrArg (fun z => some (AV.int z)) qz8, rfl, rfl, trivial⟩) ?_
 ·exact ⟨⟨⟨by simp, by omega⟩, by simp; omega⟩, rfl, ⟨fun d hd => (by cases hd), fun d hd => (by cases hd)⟩, ⟨⟨rfl, fun w hw => (by cases hw)⟩, Nat.zero_le _⟩, Nat.zero_le _⟩
 intro n S h Y v hinv
 refine I5 (List.append_nil _) ?_
 refine R6 ?_
 refine A8 (A0 rfl) ?_ ?_
 ·intro h22
  have k22 := of_decide_eq_true h22; try simp only [A5] at k22
  have hn1 : 1 ≤ n := (by simp at h22; omega)
  have hrw := hinv.2.2.2.1
  have hrl := hinv.2.2.2.2
  have hhl : h.length ≤ 5 := qz8
  have hYl := hinv.2.1
  have hnl := S8 (ocs := C5.ocs) hYl
  refine R9 ?_
  refine E4 [0] rfl rfl rfl rfl Tryz.call22 rfl (L1 _ _ hcode _ _ qz8 qz8) (A1 (A0 rfl) (A1 D8 A7)) rfl ?_
  intro x29 ok29
  refine R1 ?_
  refine E4 [0] rfl rfl rfl rfl Tryz.call22 rfl (L1 _ _ hcode _ _ qz8 qz8) (A1 (A0 rfl) (A1 D8 A7)) rfl ?_
  intro x31 ok31
  refine R3 ?_
  intro b7
  refine R3 ?_
  refine AWP.le (AG3 0 7 3 rfl rfl (c9 1 rfl rfl M9)) ?_
  refine R3 ?_
  refine E4 [1] rfl rfl rfl rfl Tryz.call105 rfl (BB2 _ _ hcode _ qz8) (A1 (A0 rfl) A7) rfl ?_
  intro x37 ok37
  refine AS2 (f0 [1] 37 rfl rfl (J3 (C6 (i := 0) rfl) F5) (c9 0 rfl rfl M9)) ?_
  refine E4 [] rfl rfl rfl rfl Tryz.call104 rfl (Bs6 S.2 x37.2.1 hrw.1.2 qz8 ok37.2.2) (A1 (A0 rfl) (A1 (A0 rfl) A7)) rfl ?_
  intro x38 ok38
  have har := CK5 (got := x38.1.1) ok37.2.1.2 ok37.2.2
  refine R12 ?_
  refine S4 0 rfl fun one_x38_2 => ?_
  refine P6 2 rfl rfl rfl (A0 rfl) (A0 rfl) (M0 one_x38_2) rfl O0 rfl ?_
  refine R6 ?_
  refine Ar1 [(0, _), (2, _), (4, _), (6, _), (7, _), (8, _), (9, _), (10, _), (21, _), (22, _), (25, _), (26, _), (27, _), (28, _), (29, _), (30, _), (31, _), (32, _), (33, _), (34, _), (35, _), (36, _), (37, _), (38, _), (39, _), (40, _), (41, _), (42, _), (43, _), (44, _)] ⟨rfl, rfl, rfl, rfl, rfl, rfl, rfl, rfl, rfl, rfl, rfl, rfl, rfl, rfl, rfl, rfl, rfl, rfl, rfl, rfl, rfl, rfl, rfl, rfl, rfl, rfl, rfl, rfl, rfl, rfl, trivial⟩ (fun (ws : List A9) (r2 : List A9) => WsD ws ∧ BN2 r2 ∧ r2.length ≤ S.2.length + 4) (fun (ws : List A9) (r2 : List A9) => [.box b 55 (Q5 code x37.1), .box b7 36 [AV.int (((nrows C5.ocs h Y).length : Int) + 1), AV.int x29.2, AV.int (-1), AV.bool true, AV.bool false, AV.int (1 + x31.2), AV.is x38.2, AV.list 3 (ws.map A9.cs)], .arr v 36 8 (nrows C5.ocs h Y), .arr x38.2 45 3 (x38.1.1.map G4.cs)] ++ (nin C5.ow h Y)) (fun (ws : List A9) (r2 : List A9) => [(5, AV.list 3 (r2.map A9.cs))]) ?_ ?_
  ·skip
   refine A8 (A0 rfl) ?_ ?_
   ·intro h44
    refine R9 ?_
    refine A4 rfl (B2 rfl Tryz.call106 rfl (Bc2 S.2 (N9 x37.2.1 x38.1.1).2.2 hrw qz8) (A1 (A0 rfl) (A1 (A0 rfl) A7))) ?_
    refine R2 ?_
    exact ⟨(N9 x37.2.1 x38.1.1).2.2, putD S.2 (N9 x37.2.1 x38.1.1).2.2, qz168, Le.trans (C1 [1, 1, 1, 0] rfl) (E3 0 B0 ⟨rfl, rfl, rfl, rfl, rfl, rfl, rfl, rfl, rfl, rfl, rfl, rfl, rfl, rfl, rfl, rfl, rfl, rfl, rfl, rfl, rfl, rfl, rfl, rfl, rfl, rfl, rfl, rfl, rfl, rfl, rfl, trivial⟩)⟩
   intro h44
   refine R1 ?_
   exact ⟨[], S.2, qz168, Le.trans (C1 [1, 1, 1, 0] rfl) (E3 0 B0 ⟨rfl, rfl, rfl, rfl, rfl, rfl, rfl, rfl, rfl, rfl, rfl, rfl, rfl, rfl, rfl, rfl, rfl, rfl, rfl, rfl, rfl, rfl, rfl, rfl, rfl, rfl, rfl, rfl, rfl, rfl, rfl, trivial⟩)⟩
  intro ws r2 hIC44
  have hr4 := hIC44.2.2
  refine R4 ?_
  refine E4 [0] rfl rfl rfl rfl Tryz.call53 rfl (AB0 _ _ hcode _ _ qz8 qz8) (A1 (A0 rfl) (A1 D8 A7)) rfl ?_
  intro x51 ok51
  refine R1 ?_
  refine Ar1 [(0, _), (2, _), (4, _), (5, _), (6, _), (7, _), (8, _), (9, _), (10, _), (21, _), (22, _), (25, _), (26, _), (27, _), (28, _), (29, _), (30, _), (31, _), (32, _), (33, _), (34, _), (35, _), (36, _), (37, _), (38, _), (39, _), (40, _), (41, _), (42, _), (43, _), (44, _), (50, _), (51, _)] ⟨rfl, rfl, rfl, rfl, rfl, rfl, rfl, rfl, rfl, rfl, rfl, rfl, rfl, rfl, rfl, rfl, rfl, rfl, rfl, rfl, rfl, rfl, rfl, rfl, rfl, rfl, rfl, rfl, rfl, rfl, rfl, rfl, rfl, trivial⟩ (fun (lk : Bool) (w2 : List A9) => WsD w2) (fun (lk : Bool) (w2 : List A9) => [.box b 55 (Q5 code x51.1), .box b7 36 [AV.int (((nrows C5.ocs h Y).length : Int) + 1), AV.int x29.2, AV.int (-1), AV.bool true, AV.bool lk, AV.int (1 + x31.2), AV.is x38.2, AV.list 3 (w2.map A9.cs)], .arr v 36 8 (nrows C5.ocs h Y), .arr x38.2 45 3 (x38.1.1.map G4.cs)] ++ (nin C5.ow h Y)) (fun (lk : Bool) (w2 : List A9) => []) ?_ ?_
  ·skip
   refine A8 (A0 rfl) ?_ ?_
   ·intro h51
    refine R7 ?_
    refine P6 1 rfl rfl rfl (A0 rfl) (P8 (sz := 3)) (Y5 _ _) rfl Tryz.sizeOf34 rfl ?_
    refine R1 ?_
    exact ⟨true, [], (by first | exact hIC44.1 | exact BR1), Le.trans (C1 [0, 0, 0, 0] rfl) (E3 0 B0 ⟨rfl, rfl, rfl, rfl, rfl, rfl, rfl, rfl, rfl, rfl, rfl, rfl, rfl, rfl, rfl, rfl, rfl, rfl, rfl, rfl, rfl, rfl, rfl, rfl, rfl, rfl, rfl, rfl, rfl, rfl, rfl, rfl, rfl, trivial⟩)⟩
   intro h51
   refine R1 ?_
   exact ⟨false, ws, (by first | exact hIC44.1 | exact BR1), Le.trans (C1 [0, 0, 0, 0] rfl) (E3 0 B0 ⟨rfl, rfl, rfl, rfl, rfl, rfl, rfl, rfl, rfl, rfl, rfl, rfl, rfl, rfl, rfl, rfl, rfl, rfl, rfl, rfl, rfl, rfl, rfl, rfl, rfl, rfl, rfl, rfl, rfl, rfl, rfl, rfl, rfl, trivial⟩)⟩
  intro lk w2 hIC51
  refine R4 ?_
  refine E4 [0] rfl rfl rfl rfl Tryz.call53 rfl (AB0 _ _ hcode _ _ qz8 qz8) (A1 (A0 rfl) (A1 D8 A7)) rfl ?_
  intro x55 ok55
  refine R2 ?_
  refine Ar1 [(0, _), (2, _), (4, _), (5, _), (6, _), (7, _), (8, _), (9, _), (10, _), (21, _), (22, _), (25, _), (26, _), (27, _), (28, _), (29, _), (30, _), (31, _), (32, _), (33, _), (34, _), (35, _), (36, _), (37, _), (38, _), (39, _), (40, _), (41, _), (42, _), (43, _), (44, _), (50, _), (51, _), (54, _), (55, _), (56, _)] ⟨rfl, rfl, rfl, rfl, rfl, rfl, rfl, rfl, rfl, rfl, rfl, rfl, rfl, rfl, rfl, rfl, rfl, rfl, rfl, rfl, rfl, rfl, rfl, rfl, rfl, rfl, rfl, rfl, rfl, rfl, rfl, rfl, rfl, rfl, rfl, rfl, trivial⟩ (fun (cu : N0) (e : Int) => cu.p ≤ x55.1.p + 2) (fun (cu : N0) (e : Int) => [.box b 55 (Q5 code cu), .box b7 36 [AV.int (((nrows C5.ocs h Y).length : Int) + 1), AV.int x29.2, AV.int (e), AV.bool true, AV.bool lk, AV.int (1 + x31.2), AV.is x38.2, AV.list 3 (w2.map A9.cs)], .arr v 36 8 (nrows C5.ocs h Y), .arr x38.2 45 3 (x38.1.1.map G4.cs)] ++ (nin C5.ow h Y)) (fun (cu : N0) (e : Int) => []) ?_ ?_
  ·skip
   refine A8 (A0 rfl) ?_ ?_
   ·intro h56
    refine AWP.le (C1 [1, 0] rfl) ?_
    refine M7 _ [(0, false), (1, false), (2, false), (3, false), (4, true)] F1 F1 rfl (P1 1) ?_
    refine R4 ?_
    refine S1 rfl rfl rfl (Y6 3 (P2 [1] rfl Tryz.call22 rfl (L1 _ _ hcode _ _ qz8 qz8) (A1 (A0 rfl) (A1 D8 A7)) rfl)) (fun a _ => qz3) ?_
    intro x61 ok61
    refine R5 ?_
    exact ⟨x61.1, x29.2 + 1 + x61.2, (by first | exact ok61.1 | exact Nat.le_add_right _ _), Le.trans (C1 [3, 0, 0, 0] rfl) (E3 0 B0 ⟨rfl, rfl, rfl, rfl, rfl, rfl, rfl, rfl, rfl, rfl, rfl, rfl, rfl, rfl, rfl, rfl, rfl, rfl, rfl, rfl, rfl, rfl, rfl, rfl, rfl, rfl, rfl, rfl, rfl, rfl, rfl, rfl, rfl, rfl, rfl, rfl, trivial⟩)⟩
   intro h56
   refine R1 ?_
   exact ⟨x55.1, -1, (by first | exact ok61.1 | exact Nat.le_add_right _ _), Le.trans (C1 [0, 0, 0, 0] rfl) (E3 0 B0 ⟨rfl, rfl, rfl, rfl, rfl, rfl, rfl, rfl, rfl, rfl, rfl, rfl, rfl, rfl, rfl, rfl, rfl, rfl, rfl, rfl, rfl, rfl, rfl, rfl, rfl, rfl, rfl, rfl, rfl, rfl, rfl, rfl, rfl, rfl, rfl, rfl, trivial⟩)⟩
  intro cu e hIC56
  refine R4 ?_
  refine G0 (by' := 88) 2 rfl rfl rfl rfl H5 Tryz.type36 rfl rfl rfl rfl rfl rfl (A0 rfl) (A0 rfl) rfl (by rw [S8 hYl]; simp only [P0]; omega) ?_
  intro v67_1
  refine R2 ?_
  refine AWP.le (C1 [0, 0, 0, 0] rfl) ?_
  refine AWP.le (O2 3 (t := nin C5.ow (h ++ [(C5.mk (((nrows C5.ocs h Y).length : Int) + 1) x29.2 e true lk (1 + x31.2) x38.1.1 w2)]) (Y ++ [x38.2])) (Bf9 (ow := C5.ow) (p := (C5.mk (((nrows C5.ocs h Y).length : Int) + 1) x29.2 e true lk (1 + x31.2) x38.1.1 w2)) (x := x38.2) hYl)) ?_
  refine R5 ?_
  refine Bw6 n S h Y v (n - 1) ((cu, r2)) (h ++ [⟨((nrows C5.ocs h Y).length : Int) + 1, x29.2, e, true, lk, 1 + x31.2, x38.1.1, w2⟩]) (Y ++ [x38.2]) (v67_1) ?_ ?_ (Le.trans (C1 [1, 0, 0] rfl) (E3 1 (Eq.trans (by (rw [BH0 (ocs := C5.ocs) hinv.2.1]; rfl)) (List.append_nil _).symm) ⟨rfl, rfl, congrArg (fun z => some (AV.int z)) qz8, rfl, rfl, trivial⟩))
  ·exact ⟨⟨⟨by rw [G2]; simp; omega, by omega⟩, by rw [G2]; simp; omega⟩, by rw [G2, G2, hYl]; rfl, hinv.2.2.1.snoc hIC51.2.2 (CD5 ok37.2.1.2 ok38 ⟨hIC51.1, hIC51.2.1⟩), hIC44.2.1, by rw [G2]; simp; omega⟩
  omega
 intro h22
 have k22 := of_decide_eq_false h22; try simp only [A5] at k22
 have hnz : n = 0 := (by simp at h22; omega)
 refine R5 ?_
 refine E4 [0] rfl rfl rfl rfl Tryz.call53 rfl (AB0 _ _ hcode _ _ qz8 qz8) (A1 (A0 rfl) (A1 D8 A7)) rfl ?_
 intro x69 ok69
 refine R1 ?_
 refine A8 (A0 rfl) ?_ ?_
 ·intro h69
  refine R5 ?_
  refine E4 [0] rfl rfl rfl rfl Tryz.call22 rfl (L1 _ _ hcode _ _ (by rw [S8 hinv.2.1]; omega) qz8) (A1 (A0 rfl) (A1 (A0 rfl) A7)) rfl ?_
  intro x73 ok73
  have hkl : x73.2.toNat < h.length := (by have h9 := S8 (ocs := C5.ocs) hinv.2.1; omega)
  obtain ⟨d, hd⟩ := get_some hkl
  obtain ⟨y, hy⟩ := get_some (show x73.2.toNat < Y.length by rw [hinv.2.1]; exact hkl)
  obtain ⟨g0, hg0⟩ := AL6 d.Got 0
  refine R8 ?_
  refine A4 rfl (D7 1 rfl H5 I3 (A0 rfl) rfl (A0 rfl) qz8 BC0) ?_
  refine A4 rfl (J2 1 rfl V4 rfl O9 (A0 rfl) rfl rfl Ae7) ?_
  refine A4 rfl (K5 1 rfl (A0 rfl) rfl e8 Ae7 rfl) ?_
  refine A4 rfl (D7 1 rfl H5 I3 (A0 rfl) rfl (A0 rfl) qz8 BC0) ?_
  refine A4 rfl (J2 1 rfl V4 rfl O9 (A0 rfl) rfl rfl Ae7) ?_
  refine T3 1 rfl rfl rfl (A0 rfl) (A0 rfl) (y7 _) rfl O9 Ae7 rfl ?_
  refine R2 ?_
  refine AWP.le (O2 2 (t := ([Go.AV.Own.arr y 45 3 (d.Got.map G4.cs)]) ++ (nin C5.ow (h.eraseIdx x73.2.toNat) (Y.eraseIdx x73.2.toNat))) (z6 (ow := C5.ow) hd hy)) ?_
  refine R3 ?_
  refine A4 rfl (D7 1 rfl H5 I3 (A0 rfl) rfl (A0 rfl) qz8 BC0) ?_
  refine A4 rfl (J2 1 rfl V4 rfl O0 (A0 rfl) rfl rfl Ae7) ?_
  refine A4 rfl (K5 1 rfl (A0 rfl) rfl Z2 Ae7 rfl) ?_
  refine R5 ?_
  refine L3 rfl (fun hc => D7 1 rfl H5 I3 (B1 rfl hc) rfl (B1 rfl hc) qz8 BC0) ?_
  refine L3 rfl (fun hc => J2 1 rfl V4 rfl O0 (B1 rfl hc) rfl rfl Ae7) ?_
  refine L3 rfl (fun hc => K5 1 rfl (B1 rfl hc) rfl Z2 Ae7 rfl) ?_
  refine L3 rfl (fun hc => D7 2 rfl J6 O5 (B1 rfl hc) rfl D8 qz8 BC0) ?_
  refine L3 rfl (fun hc => J2 2 rfl j7 rfl O9 (B1 rfl hc) rfl rfl qz18) ?_
  refine L3 rfl (fun hc => K5 2 rfl (B1 rfl hc) rfl e8 qz18 rfl) ?_
  refine R2 ?_
  refine A8 (A0 rfl) ?_ ?_
  ·intro h99
   have hgp : 0 < d.Got.length := (by simp only [A5] at h99; simp at h99; exact h99.1)
   refine AWP.le (C1 [1] rfl) ?_
   refine M7 _ [(0, false), (1, false), (2, false), (3, false), (4, false), (5, false), (6, true)] F1 F1 rfl (P1 1) ?_
   refine R2 ?_
   refine M8 rfl rfl rfl (fun ext => D7 0 rfl H5 I3 (A0 rfl) rfl (A0 rfl) qz8 BC0) ?_
   refine M8 rfl rfl rfl (fun ext => J2 0 rfl V4 rfl O0 (A0 rfl) rfl rfl Ae7) ?_
   refine M8 rfl rfl rfl (fun ext => K5 0 rfl (A0 rfl) rfl Z2 Ae7 rfl) ?_
   refine R1 ?_
   refine S1 rfl rfl rfl (Y6 2 (P2 [1] rfl Tryz.call107 rfl (CB0 _ _ hcode _ qz8) (A1 (A0 rfl) A7) rfl)) (fun a _ => qz3) ?_
   intro x106 ok106
   obtain ⟨D9, hD9⟩ : ∃ D9, D9 = setVal d x106.2 := ⟨_, rfl⟩
   obtain ⟨H9, hH9⟩ : ∃ H9, H9 = h.set x73.2.toNat D9 := ⟨_, rfl⟩
   have hH1 : d7 H9 ∧ H9.length ≤ 10 := (by rw [hH9, hD9]; exact ⟨BZ0 hinv.2.2.1 hd rfl (Bs7 d ok106.2), by rw [List.length_set]; omega⟩)
   refine R1 ?_
   refine A4 rfl (D7 1 rfl J6 O5 (A0 rfl) rfl D8 qz8 BC0) ?_
   refine A4 rfl (J2 1 rfl j7 rfl K1 (A0 rfl) rfl rfl qz18) ?_
   refine T3 1 rfl rfl rfl (A0 rfl) (A0 rfl) (V0 _) rfl K1 qz18 rfl ?_
   refine R2 ?_
   refine I5 AC9 ?_
   refine AWP.le (C1 [0, 1, 0] rfl) ?_
   refine AWP.le (O2 2 (t := nin C5.ow (h.set x73.2.toNat D9) Y) ((AH0 (b := C5.ow D9 y ++ nin C5.ow (h.eraseIdx x73.2.toNat) (Y.eraseIdx x73.2.toNat)) (by subst hD9; first | rfl | (unfold C5.ow; rw [BB4 (hg0 hgp)]; rfl)) (Bu3 hd hy)))) ?_
   refine R2 ?_
   refine AS2 (AK2 2 0 (.arr v 36 8 (H9.map C5.cs)) rfl (⟨rfl, rfl, rfl, qz53⟩) (c9 1 rfl rfl M9)) ?_
   refine R3 ?_
   exact G1 [1, 0] ((x106.1, H9, v)) (qz86) rfl B0 (E6 rfl (A6 rfl B0))
  intro h99
  obtain ⟨D9, hD9⟩ : ∃ D9, D9 = yesLook d := ⟨_, rfl⟩
  obtain ⟨H9, hH9⟩ : ∃ H9, H9 = h.set x73.2.toNat D9 := ⟨_, rfl⟩
  have hH1 : d7 H9 ∧ H9.length ≤ 10 := (by rw [hH9, hD9]; exact ⟨BZ0 hinv.2.2.1 hd rfl (Nat.le_add_right _ _), by rw [List.length_set]; omega⟩)
  refine R2 ?_
  refine I5 AC9 ?_
  refine AWP.le (C1 [0, 0, 0] rfl) ?_
  refine AWP.le (O2 2 (t := nin C5.ow (h.set x73.2.toNat D9) Y) ((AH0 (b := C5.ow D9 y ++ nin C5.ow (h.eraseIdx x73.2.toNat) (Y.eraseIdx x73.2.toNat)) (by subst hD9; first | rfl | (unfold C5.ow; rw [BB4 (hg0 hgp)]; rfl)) (Bu3 hd hy)))) ?_
  refine R2 ?_
  refine AS2 (AK2 2 1 (.arr v 36 8 (H9.map C5.cs)) rfl (⟨rfl, rfl, rfl, qz53⟩) (c9 0 rfl rfl M9)) ?_
  refine R3 ?_
  exact G1 [0, 0] ((x73.1, H9, v)) (qz86) rfl B0 (E6 rfl (A6 rfl B0))
 intro h69
 obtain ⟨H9, hH9⟩ : ∃ H9, H9 = h := ⟨_, rfl⟩
 have hH1 : d7 H9 ∧ H9.length ≤ 10 := (by rw [hH9]; exact ⟨hinv.2.2.1.big, by omega⟩)
 refine R2 ?_
 refine I5 AC9 ?_
 refine R2 ?_
 refine AS2 (AK2 2 1 (.arr v 36 8 (H9.map C5.cs)) rfl (⟨rfl, rfl, rfl, qz53⟩) (c9 0 rfl rfl M9)) ?_
 refine R3 ?_
 exact G1 [0, 0] ((x69.1, H9, v)) (qz86) rfl B0 (E6 rfl (A6 rfl B0))
end Go.Proofs.YtcfkbhnpfjjmjaaGreat
namespace Go.Proofs.YtcfkbhnpfjjmjaaGreat
open Go Go.AV Go.M
attribute [local irreducible] OpW OpA OpS AWP B9 J5 C8 OpE RetOk H1 I9 Le Ev F6 J9
theorem CD6 (h : List C5) (o : List Int) (ho : ∀ n ∈ o, 0 ≤ n ∧ n < (h.length : Int)) : B9 Tryz.prog 38 [AV.list 8 (h.map C5.cs), ints o] (AV.bool (keepsO h o)) := by
 refine B7 Tryz.func38 rfl Tryz.ntmps38 rfl ?_
 refine S0 (t := 1) rfl fun hol => ?_
 try simp only [A5] at hol
 refine R12 ?_
 refine E5 [(0, _), (1, _), (9, _), (10, _)] _ (fun (i : Nat) => i ≤ o.length ∧ keepsO h o = keepsO h (o.drop i)) (fun (i : Nat) => []) (fun (i : Nat) => [(11, AV.int i)]) (fun (i : Nat) => o.length - i) (0) ?_ (I8 B0 ⟨rfl, rfl, rfl, rfl, rfl, trivial⟩) ?_
 ·exact ⟨Nat.zero_le _, rfl⟩
 intro i hinv
 refine R5 ?_
 refine A8 (A0 rfl) ?_ ?_
 ·intro h12
  have k12 := of_decide_eq_true h12; try simp only [A5] at k12
  have hlt : i < o.length := (by simpa using h12)
  obtain ⟨x, hx⟩ := get_some hlt
  have hi0 := hinv.2
  have hxr := ho x (C6 hx)
  have hdl : (o.drop (i + 1)).length ≤ o.length := (by rw [List.length_drop]; omega)
  refine R6 ?_
  refine A4 rfl (C7 rfl B3 B4 (A0 rfl) (A0 rfl) hx qz4) ?_
  refine R9 ?_
  refine A4 rfl (AL4 rfl B3 B4 (A0 rfl) (A0 rfl) qz4 qz4) ?_
  refine R4 ?_
  refine E5 [(0, _), (1, _), (5, _), (6, _), (9, _), (10, _), (11, _), (12, _), (13, _), (14, _), (15, _), (16, _), (17, _), (18, _), (19, _), (20, _)] _ (fun (j : Nat) => j ≤ (o.drop (i + 1)).length ∧ ((o.drop (i + 1)).all fun m => !Go.M.ahead (deedAt h m) (deedAt h x)) = (((o.drop (i + 1)).drop j).all fun m => !Go.M.ahead (deedAt h m) (deedAt h x))) (fun (j : Nat) => []) (fun (j : Nat) => [(21, AV.int j)]) (fun (j : Nat) => (o.drop (i + 1)).length - j) (0) ?_ (I8 B0 ⟨rfl, rfl, rfl, rfl, rfl, rfl, rfl, rfl, rfl, rfl, rfl, rfl, rfl, rfl, rfl, rfl, rfl, trivial⟩) ?_
  ·exact ⟨Nat.zero_le _, rfl⟩
  intro j hinv
  refine R5 ?_
  refine A8 (A0 rfl) ?_ ?_
  ·intro h22
   have k22 := of_decide_eq_true h22; try simp only [A5] at k22
   have hlt1 : j < (o.drop (i + 1)).length := (Int.ofNat_lt.1 k22)
   obtain ⟨z, hz⟩ := get_some hlt1
   have hzr := ho z (List.mem_of_mem_drop (C6 hz))
   refine R5 ?_
   refine A4 rfl (C7 rfl B3 B4 (A0 rfl) (A0 rfl) hz qz4) ?_
   refine R7 ?_
   refine C2 rfl rfl (C7 rfl H5 I3 (A0 rfl) (A0 rfl) (AO5 hzr) qz8) ?_
   refine R3 ?_
   refine C2 rfl rfl (C7 rfl H5 I3 (A0 rfl) (A0 rfl) (AO5 hxr) qz8) ?_
   refine R1 ?_
   refine C2 rfl rfl (B2 rfl Tryz.call27 rfl (AO2 _ _) (A1 (A0 rfl) (A1 (A0 rfl) A7))) ?_
   refine R1 ?_
   refine A8 (A0 rfl) ?_ ?_
   ·intro h33
    have he : keepsO h o = false := (by rw [hi0, BA5 hx, hinv.2, Au3 hz, h33]; rfl)
    rw [he]
    refine R5 ?_
    exact D5 rfl (A6 rfl (by first | rfl | exact congrArg AV.bool hfin.symm))
   intro h33
   refine R5 ?_
   refine F3 j (j + 1) ?_ ?_ (I8 B0 ⟨rfl, rfl, rfl, rfl, rfl, rfl, rfl, rfl, rfl, rfl, rfl, rfl, rfl, rfl, rfl, rfl, rfl, trivial⟩)
   ·exact ⟨by omega, by rw [hinv.2, Au3 hz, h33]; rfl⟩
   omega
  intro h22
  have k22 := of_decide_eq_false h22; try simp only [A5] at k22
  have hge1 : (o.drop (i + 1)).length ≤ j := (Nat.le_of_not_lt fun h9 => k22 (Int.ofNat_lt.2 h9))
  have hj3 : ((o.drop (i + 1)).all fun m => !Go.M.ahead (deedAt h m) (deedAt h x)) = true := qz182
  refine R5 ?_
  refine F3 i (i + 1) ?_ ?_ (I8 B0 ⟨rfl, rfl, rfl, rfl, rfl, trivial⟩)
  ·exact ⟨by omega, by rw [hi0, BA5 hx, hj3, Bool.true_and]⟩
  omega
 intro h12
 have k12 := of_decide_eq_false h12; try simp only [A5] at k12
 have hge : o.length ≤ i := (by simpa using h12)
 have hfin := hinv.2
 rw [CB7 hge] at hfin
 refine R6 ?_
 exact D5 rfl (A6 rfl (by first | rfl | exact congrArg AV.bool hfin.symm))
end Go.Proofs.YtcfkbhnpfjjmjaaGreat
namespace Go.M
open Go.AV
theorem CK6 {rows ws : List A9} (h : adj wLess rows = true) : putRows rows ws = if ((putD rows ws).length : Int) ≤ 24 then (putD rows ws, true) else ([], false) := by
  unfold putRows putD
  rw [Bg7 h]
  by_cases hc : ((q6 (insL rows ws)).length : Int) ≤ 24
  · rw [if_pos hc, if_neg qz8]
  · rw [if_neg hc, if_pos qz8]
theorem AO6 {h : List C5} {o : List Int} {i : Nat} {n : Int} {rows : List A9} {r : Bool} (hx : o[i]? = some n) : playO h (o.drop i) rows r = if (deedAt h n).Yes = true then (if ((putD rows (deedAt h n).Writes).length : Int) ≤ 24 then playO h (o.drop (i + 1)) (putD rows (deedAt h n).Writes) (r && confirms rows (deedAt h n)) else none) else playO h (o.drop (i + 1)) rows r := by rw [Ad2 hx]; rfl
theorem CD7 {h : List C5} {o : List Int} {rows : List A9} {r : Bool} (ho : Y2 h o = true) (e : playO h o [] true = some (rows, r)) : playR h o = (rows, r, true) := by unfold playR; rw [if_pos ho, e]
theorem CD8 {h : List C5} {o : List Int} (ho : Y2 h o = true) (e : playO h o [] true = none) : playR h o = ([], false, false) := by unfold playR; rw [if_pos ho, e]
end Go.M
namespace Go.Proofs.YtcfkbhnpfjjmjaaGreat
open Go Go.AV Go.M
attribute [local irreducible] OpW OpA OpS AWP B9 J5 C8 OpE RetOk H1 I9 Le Ev F6 J9
theorem Bc3 (l ws : List A9) (hl : l.length ≤ 2097151) (hw : ws.length ≤ 2097152) : B9 Tryz.prog 62 [AV.list 3 (l.map A9.cs), AV.list 3 (ws.map A9.cs)] (AV.tup [AV.list 3 ((putRows l ws).1.map A9.cs), AV.bool (putRows l ws).2]) :=
  K2 (Bp8 l ws hl hw) fun x _ => p4 (D1 (J3 (List.mem_singleton.2 rfl) F5) (D1 H0 V2))
theorem BR3 (h : List C5) (o : List Int) (hs : ∀ d ∈ h, d.size ≤ 1048576) (hl : h.length ≤ 4611686018427387904) : B9 Tryz.prog 39 [AV.list 8 (h.map C5.cs), ints o] (AV.tup [AV.list 3 ((playR h o).1.map A9.cs), AV.bool (playR h o).2.1, AV.bool (playR h o).2.2]) := by
 refine B7 Tryz.func39 rfl Tryz.ntmps39 rfl ?_
 refine S0 (t := 1) rfl fun hol => ?_
 try simp only [A5] at hol
 refine R2 ?_
 refine A4 rfl (D4 rfl (P8 (sz := 3))) ?_
 refine R8 ?_
 refine A4 rfl (B2 rfl Tryz.call24 rfl (AQ7 _ _ k0 T0) (A1 (A0 rfl) (A1 (A0 rfl) A7))) ?_
 refine R2 ?_
 refine A8 (A0 rfl) ?_ ?_
 ·intro h16
  have he : playR h o = ([], false, false) := (by unfold playR; rw [if_neg Aw0])
  rw [he]
  refine R2 ?_
  refine A4 rfl (D4 rfl (P8 (sz := 3))) ?_
  refine R4 ?_
  exact W6 rfl D0 (B6 (A6 rfl B0) (B6 (A6 rfl B0) (B6 (A6 rfl B0) E8)))
 intro h16
 have hor : Y2 h o = true := Aw0
 obtain ⟨o1, o2, o3⟩ := AC4.1 hor
 refine R18 ?_
 refine T8 [(0, _), (18, _), (19, _)] _ (fun (i : Nat) (rows : List A9) (r : Bool) => i ≤ o.length ∧ playO h o [] true = playO h (o.drop i) rows r ∧ adj wLess rows = true ∧ rows.length ≤ 24) (fun (i : Nat) (rows : List A9) (r : Bool) => []) (fun (i : Nat) (rows : List A9) (r : Bool) => [(7, AV.list 3 (rows.map A9.cs)), (8, AV.bool r), (20, AV.int i)]) (fun (i : Nat) (rows : List A9) (r : Bool) => o.length - i) (0) ([]) (true) ?_ (I8 B0 ⟨rfl, rfl, rfl, rfl, rfl, rfl, trivial⟩) ?_
 ·exact ⟨Nat.zero_le _, rfl, rfl, Nat.zero_le _⟩
 intro i rows r hinv
 refine R5 ?_
 refine A8 (A0 rfl) ?_ ?_
 ·intro h21
  have k21 := of_decide_eq_true h21; try simp only [A5] at k21
  have hlt : i < o.length := (by simpa using h21)
  obtain ⟨x, hx⟩ := get_some hlt
  have hxr := o1 x (C6 hx)
  have hdm := o0 hxr
  have hds := AF1 (hs _ hdm.1)
  have hadj := hinv.2.2.1
  have hpr := CK6 (ws := (deedAt h x).Writes) hinv.2.2.1
  refine R5 ?_
  refine A4 rfl (C7 rfl B3 B4 (A0 rfl) (A0 rfl) hx qz4) ?_
  refine R8 ?_
  refine A4 rfl (C7 rfl H5 I3 (A0 rfl) (A0 rfl) (AO5 hxr) qz8) ?_
  refine R4 ?_
  refine A8 (A0 rfl) ?_ ?_
  ·intro h29
   have hno : (deedAt h x).Yes = false := (by simpa using h29)
   refine R5 ?_
   refine N7 i rows r (i + 1) (rows) (r) ?_ ?_ (I8 B0 ⟨rfl, rfl, rfl, rfl, rfl, rfl, trivial⟩)
   ·first | exact ⟨by omega, by rw [hinv.2.1, AO6 hx, if_neg (by rw [hno]; decide)], hinv.2.2.1, hinv.2.2.2⟩ | exact ⟨by omega, by rw [hinv.2.1, AO6 hx, if_pos hyes, if_pos hfit], AQ3 hinv.2.2.1, by omega⟩
   omega
  intro h29
  have hyes : (deedAt h x).Yes = true := (by simpa using h29)
  refine R7 ?_
  refine L3 rfl (fun hc => C7 rfl H5 I3 (B1 rfl hc) (B1 rfl hc) (AO5 hxr) qz8) ?_
  refine R2 ?_
  refine L3 rfl (fun hc => B2 rfl Tryz.call61 rfl (Bb8 (deedAt h x) rows hadj qz8) (A1 (B1 rfl hc) (A1 (B1 rfl hc) A7))) ?_
  refine R8 ?_
  refine A4 rfl (C7 rfl H5 I3 (A0 rfl) (A0 rfl) (AO5 hxr) qz8) ?_
  refine R2 ?_
  refine A4 rfl (B2 rfl Tryz.call62 rfl (Bc3 rows (deedAt h x).Writes qz8 qz8) (A1 (A0 rfl) (A1 (A0 rfl) A7))) ?_
  refine R12 ?_
  refine A8 (A0 rfl) ?_ ?_
  ·intro h50
   have hnf : ¬ ((putD rows (deedAt h x).Writes).length : Int) ≤ 24 := (fun hc => by rw [hpr, if_pos hc] at h50; cases h50)
   have he : playR h o = ([], false, false) := CD8 hor (by rw [hinv.2.1, AO6 hx, if_pos hyes, if_neg hnf])
   rw [he]
   refine R2 ?_
   refine A4 rfl (D4 rfl (P8 (sz := 3))) ?_
   refine R4 ?_
   exact W6 rfl D0 (B6 (A6 rfl B0) (B6 (A6 rfl B0) (B6 (A6 rfl B0) E8)))
  intro h50
  have hfit : ((putD rows (deedAt h x).Writes).length : Int) ≤ 24 := Classical.byContradiction (fun hc => by rw [hpr, if_neg hc] at h50; cases h50)
  rw [if_pos hfit] at hpr
  simp only [hpr]
  refine R9 ?_
  refine N7 i rows r (i + 1) (putD rows (deedAt h x).Writes) ((r && confirms rows (deedAt h x))) ?_ ?_ (I8 B0 ⟨rfl, rfl, rfl, rfl, rfl, rfl, trivial⟩)
  ·first | exact ⟨by omega, by rw [hinv.2.1, AO6 hx, if_neg (by rw [hno]; decide)], hinv.2.2.1, hinv.2.2.2⟩ | exact ⟨by omega, by rw [hinv.2.1, AO6 hx, if_pos hyes, if_pos hfit], AQ3 hinv.2.2.1, by omega⟩
  omega
 intro h21
 have k21 := of_decide_eq_false h21; try simp only [A5] at k21
 have hge : o.length ≤ i := (by simpa using h21)
 have hfin : playR h o = (rows, r, true) := CD7 hor qz180
 rw [hfin]
 refine R10 ?_
 exact W6 rfl D0 (B6 (A6 rfl B0) (B6 (A6 rfl B0) (B6 (A6 rfl B0) E8)))
theorem BL6 (n : Int) (o : List Int) : B9 Tryz.prog 36 [AV.int n, AV.eptr [ints o]] (AV.bool (!(o.any fun x => n == x))) := by
  refine B7 Tryz.func36 rfl Tryz.ntmps36 rfl ?_
  refine R8 ?_
  refine A4 rfl (B2 rfl Tryz.call37 rfl (AZ8 _ _) (A1 (A0 rfl) (A1 (A0 rfl) A7))) ?_
  refine R4 ?_
  exact D5 rfl (A6 rfl U6)
theorem Ah8 (h : List C5) (o : List Int) (hs : ∀ d ∈ h, d.size ≤ 1048576) (hl : h.length ≤ 1000) : B9 Tryz.prog 10 [AV.list 8 (h.map C5.cs), ints o] (AV.tup [AV.bool (Aa9 h o).1, AV.bool (Aa9 h o).2]) := by
 refine B7 Tryz.func10 rfl Tryz.ntmps10 rfl ?_
 refine R2 ?_
 refine Aw6 rfl rfl rfl rfl (A0 rfl) (AY2 _ _) ?_
 intro b3
 refine R8 ?_
 refine A4 rfl (B2 rfl Tryz.call24 rfl (AQ7 _ _ k0 T0) (A1 (A0 rfl) (A1 (A0 rfl) A7))) ?_
 refine R2 ?_
 refine A8 (A0 rfl) ?_ ?_
 ·intro h12
  have he : Aa9 h o = (false, false) := (by unfold Aa9; rw [if_neg (by simpa using h12)])
  rw [he]
  refine R6 ?_
  exact W6 rfl D0 (B6 (A6 rfl B0) (B6 (A6 rfl B0) E8))
 intro h12
 have hor : Y2 h o = true := (by simpa using h12)
 obtain ⟨o1, o2, o3⟩ := AC4.1 hor
 have hany : ((m6 h).any fun n => !(o.any fun x => n == x)) = !AP2 h o := (by unfold AP2; rw [List.not_all_eq_any_not])
 have he : Aa9 h o = ((AP2 h o && keepsO h o) && ((playR h o).2.2 && (playR h o).2.1), true) := (by unfold Aa9; rw [if_pos hor])
 refine R5 ?_
 refine A4 rfl (B2 rfl Tryz.call35 rfl (BQ8 h hl) (A1 (A0 rfl) A7)) ?_
 refine A4 rfl (Bd8 rfl rfl (A1 (A0 rfl) A7)) ?_
 refine A4 rfl (AG1 rfl Tryz.call34 rfl (An0 (m6 h) (fun _ => True) (fun n => !(o.any fun x => n == x)) (fun _ _ => trivial)) (W9 _) (T2 (evb (A0 rfl)) (T2 (AV9 (BC6 0 (A0 rfl) rfl) (Aj9 Tryz.call36 (fun n (_ : True) => BL6 n _))) i0))) ?_
 refine R3 ?_
 refine P4 rfl (fun hc => B2 rfl Tryz.call38 rfl (CD6 h o o1) (A1 (B1 rfl hc) (A1 (B1 rfl hc) A7))) ?_
 refine R3 ?_
 refine A8 (A0 rfl) ?_ ?_
 ·intro h22
  have hb : (AP2 h o && keepsO h o) = false := (by rw [hany] at h22; cases h1 : AP2 h o <;> cases h2 : keepsO h o <;> simp_all)
  rw [he, hb]
  refine R6 ?_
  exact W6 rfl D0 (B6 (A6 rfl B0) (B6 (A6 rfl B0) E8))
 intro h22
 have hb : (AP2 h o && keepsO h o) = true := (by rw [hany] at h22; cases h1 : AP2 h o <;> cases h2 : keepsO h o <;> simp_all)
 rw [he, hb]
 refine R5 ?_
 refine A4 rfl (B2 rfl Tryz.call39 rfl (BR3 h o hs qz8) (A1 (A0 rfl) (A1 (A0 rfl) A7))) ?_
 refine R18 ?_
 exact W6 rfl D0 (B6 (A6 rfl B0) (B6 (A6 rfl B0) E8))
end Go.Proofs.YtcfkbhnpfjjmjaaGreat
namespace Go.M
open Go.AV
theorem Ad4 {o : List Int} {n : Nat} (h : n < o.length) : o[n]? = some (o.getD n 0) := by rw [List.getD_eq_getElem?_getD, List.getElem?_eq_getElem h]; rfl
end Go.M
namespace Go.Proofs.YtcfkbhnpfjjmjaaGreat
open Go Go.AV Go.M
attribute [local irreducible] OpW OpA OpS AWP B9 J5 C8 OpE RetOk H1 I9 Le Ev F6 J9
theorem Bc4 (h : List C5) (o : List Int) (k : Int) (hs : ∀ d ∈ h, d.size ≤ 1048576) (hl : h.length ≤ 1000) (hol : o.length ≤ 4194304) : C8 Tryz.prog 8 [AV.list 8 (h.map C5.cs), ints o, AV.int k] [] (fun _ : Value => True) (fun v => [.arr v 3 1 ((swapR h o k).1.map fun n => [AV.int n])]) (fun v => AV.tup [AV.is v, AV.bool (swapR h o k).2]) := by
 refine C3 Tryz.func8 rfl Tryz.ntmps8 rfl ?_
 refine R2 ?_
 refine A4 rfl (D4 rfl F4) ?_
 refine R7 ?_
 refine A4 rfl (B2 rfl Tryz.call29 rfl (Bb5 _ _ k0 T0) (A1 (A0 rfl) (A1 (A0 rfl) A7))) ?_
 refine R6 ?_
 refine P4 rfl (fun hc => B2 rfl Tryz.call30 rfl (N5 _ _ _) (A1 (B1 rfl hc) (A1 D8 (A1 (B1 rfl hc) A7)))) ?_
 refine R3 ?_
 refine A8 (A0 rfl) ?_ ?_
 ·intro h22
  have he : swapR h o k = ([], false) := qz149
  rw [he]
  refine R2 ?_
  refine A4 rfl (D4 rfl F4) ?_
  refine R3 ?_
  refine W7 3 1 ?_
  exact G1 [0] (Value.slice none 0 0) (trivial) rfl w7 (N4 rfl D0 (B6 (A6 rfl B0) (B6 (A6 rfl B0) E8)))
 intro h22
 have hcc : Y2 h o = true ∧ within k 0 ((o.length : Int) - 2) = true := qz164
 have hkr : 0 ≤ k ∧ k ≤ (o.length : Int) - 2 := qz163
 obtain ⟨n, hn⟩ : ∃ n : Nat, k = (n : Int) := ⟨k.toNat, by omega⟩
 subst hn
 obtain ⟨o1, o2, o3⟩ := AC4.1 hcc.1
 have hga := Ad4 (o := o) (n := n) qz8
 have hgb := Ad4 (o := o) (n := n + 1) qz8
 have hra := o1 _ (C6 hga)
 have hrb := o1 _ (C6 hgb)
 have hda := o0 hra
 have hdb := o0 hrb
 have hsa := hs _ hda.1
 have hsb := hs _ hdb.1
 have hea := (Y9 (f8 o3 hda.1)).2
 have heb := (Y9 (f8 o3 hdb.1)).2
 refine R2 ?_
 refine P5 _ 18 (.pure 0 (.pure 1 (.pure 2 (.pure 3 (.pure 4 (.pure 5 (.pure 6 (.pure 7 (.pure 8 (.pure 9 (.pure 10 (.pure 11 (.pure 12 (.pure 13 (.pure 14 (.e2 15 (.e1 16 (.e1 17 .nil)) 16 (.e1 15 (.e1 17 .nil)))))))))))))))))) F1 F1 rfl AE0 ?_
 refine R3 ?_
 refine J0 rfl rfl rfl (fun ext => C7 rfl B3 B4 (A0 rfl) (A0 rfl) hga qz4) ?_
 refine R1 ?_
 refine J0 rfl rfl rfl (fun ext => C7 rfl H5 I3 (A0 rfl) (A0 rfl) hda.2 qz8) ?_
 refine R5 ?_
 refine J0 rfl rfl rfl (fun ext => C7 rfl B3 B4 (A0 rfl) (A0 rfl) hgb qz8) ?_
 refine R1 ?_
 refine J0 rfl rfl rfl (fun ext => C7 rfl H5 I3 (A0 rfl) (A0 rfl) hdb.2 qz8) ?_
 refine R1 ?_
 refine c8 ?_ ?_
 ·refine E1 rfl rfl rfl (Q6 rfl Tryz.zeroValue36 rfl) (fun a _ => qz3) ?_
  intro b8 _
  refine R1 ?_
  refine E1 rfl rfl rfl (Q6 rfl Tryz.zeroValue36 rfl) (fun a _ => qz3) ?_
  intro b9 _
  refine R1 ?_
  refine W1 rfl rfl rfl (U5 0 rfl rfl (A0 rfl) (A0 rfl) (U4 _) rfl I3 rfl) (fun a _ => qz3) ?_
  intro _ _
  refine R8 ?_
  refine A4 rfl (B2 rfl Tryz.call31 rfl (AO4 _ _ hsa hsb) (A1 (A0 rfl) (A1 (A0 rfl) A7))) ?_
  refine R4 ?_
  refine P4 rfl (fun hc => B2 rfl Tryz.call32 rfl (AB8 _ _ hea) (A1 (B1 rfl hc) (A1 (B1 rfl hc) A7))) ?_
  refine R4 ?_
  refine P4 rfl (fun hc => B2 rfl Tryz.call32 rfl (AB8 _ _ heb) (A1 (B1 rfl hc) (A1 (B1 rfl hc) A7))) ?_
  refine R2 ?_
  refine A8 (A0 rfl) ?_ ?_
  ·intro h51
   have he : swapR h o (n : Int) = ([], false) := qz96
   rw [he]
   refine R2 ?_
   refine A4 rfl (D4 rfl F4) ?_
   refine R3 ?_
   refine W7 3 1 ?_
   exact G1 [0] (Value.slice none 0 0) (trivial) rfl w7 (N4 rfl D0 (B6 (A6 rfl B0) (B6 (A6 rfl B0) E8)))
  intro h51
  have he : swapR h o (n : Int) = (AP3 o n, true) := qz73
  rw [he]
  refine R4 ?_
  refine E4 [] rfl rfl rfl rfl Tryz.call33 rfl (o8 o hol) (A1 (A0 rfl) A7) rfl ?_
  intro x53 ok53
  refine R9 ?_
  refine A4 rfl (C7 rfl B3 B4 (A0 rfl) (A0 rfl) hgb qz8) ?_
  refine R1 ?_
  refine A4 rfl (D7 0 rfl B3 B4 (A0 rfl) rfl (A0 rfl) qz8 M3) ?_
  refine N3 0 rfl rfl rfl (A0 rfl) (A0 rfl) (M5 _ _) rfl B4 rfl M3 ?_
  refine R8 ?_
  refine A4 rfl (C7 rfl B3 B4 (A0 rfl) (A0 rfl) hga qz4) ?_
  refine R1 ?_
  refine A4 rfl (D7 0 rfl B3 B4 (A0 rfl) rfl (A0 rfl) qz8 M3) ?_
  refine N3 0 rfl rfl rfl (A0 rfl) (A0 rfl) (M5 _ _) rfl B4 rfl M3 ?_
  refine R8 ?_
  exact G1 [0] x53 (trivial) rfl w7 (N4 rfl D0 (B6 (A6 rfl B0) (B6 (A6 rfl B0) E8)))
 refine E1 rfl rfl rfl (Q6 rfl Tryz.zeroValue36 rfl) (fun a _ => qz3) ?_
 intro b9 _
 refine R1 ?_
 refine E1 rfl rfl rfl (Q6 rfl Tryz.zeroValue36 rfl) (fun a _ => qz3) ?_
 intro b8 _
 refine R1 ?_
 refine W1 rfl rfl rfl (U5 1 rfl rfl (A0 rfl) (A0 rfl) (U4 _) rfl I3 rfl) (fun a _ => qz3) ?_
 intro _ _
 refine R8 ?_
 refine A4 rfl (B2 rfl Tryz.call31 rfl (AO4 _ _ hsa hsb) (A1 (A0 rfl) (A1 (A0 rfl) A7))) ?_
 refine R4 ?_
 refine P4 rfl (fun hc => B2 rfl Tryz.call32 rfl (AB8 _ _ hea) (A1 (B1 rfl hc) (A1 (B1 rfl hc) A7))) ?_
 refine R4 ?_
 refine P4 rfl (fun hc => B2 rfl Tryz.call32 rfl (AB8 _ _ heb) (A1 (B1 rfl hc) (A1 (B1 rfl hc) A7))) ?_
 refine R2 ?_
 refine A8 (A0 rfl) ?_ ?_
 ·intro h51
  have he : swapR h o (n : Int) = ([], false) := qz96
  rw [he]
  refine R2 ?_
  refine A4 rfl (D4 rfl F4) ?_
  refine R3 ?_
  refine W7 3 1 ?_
  exact G1 [0] (Value.slice none 0 0) (trivial) rfl w7 (N4 rfl D0 (B6 (A6 rfl B0) (B6 (A6 rfl B0) E8)))
 intro h51
 have he : swapR h o (n : Int) = (AP3 o n, true) := qz73
 rw [he]
 refine R4 ?_
 refine E4 [] rfl rfl rfl rfl Tryz.call33 rfl (o8 o hol) (A1 (A0 rfl) A7) rfl ?_
 intro x53 ok53
 refine R9 ?_
 refine A4 rfl (C7 rfl B3 B4 (A0 rfl) (A0 rfl) hgb qz8) ?_
 refine R1 ?_
 refine A4 rfl (D7 0 rfl B3 B4 (A0 rfl) rfl (A0 rfl) qz8 M3) ?_
 refine N3 0 rfl rfl rfl (A0 rfl) (A0 rfl) (M5 _ _) rfl B4 rfl M3 ?_
 refine R8 ?_
 refine A4 rfl (C7 rfl B3 B4 (A0 rfl) (A0 rfl) hga qz4) ?_
 refine R1 ?_
 refine A4 rfl (D7 0 rfl B3 B4 (A0 rfl) rfl (A0 rfl) qz8 M3) ?_
 refine N3 0 rfl rfl rfl (A0 rfl) (A0 rfl) (M5 _ _) rfl B4 rfl M3 ?_
 refine R8 ?_
 exact G1 [0] x53 (trivial) rfl w7 (N4 rfl D0 (B6 (A6 rfl B0) (B6 (A6 rfl B0) E8)))
end Go.Proofs.YtcfkbhnpfjjmjaaGreat
namespace Go.M
open Go.AV
def BS1 (h : List C5) (i : Nat) : Option Int := if (deedAt h (Int.ofNat i)).Yes = true then some (Int.ofNat i) else none
theorem yes_eq (h : List C5) : m6 h = (List.range h.length).filterMap (BS1 h) := rfl
theorem BZ1 {h : List C5} {i : Nat} {d : C5} (e : h[i]? = some d) : deedAt h (i : Int) = d := by unfold deedAt; rw [Int.toNat_natCast, e]; rfl
theorem Bm7 {h : List C5} {i : Nat} {d : C5} (e : h[i]? = some d) : ((List.range (i + 1)).filterMap (BS1 h)).length = ((List.range i).filterMap (BS1 h)).length + (if d.Yes = true then 1 else 0) := by
  rw [List.range_succ, List.filterMap_append, G2]
  have : BS1 h i = if d.Yes = true then some (i : Int) else none := by unfold BS1; rw [show deedAt h (Int.ofNat i) = d from BZ1 e]; rfl
  simp only [List.filterMap_cons, List.filterMap_nil, this]
  by_cases hd : d.Yes = true
  · rw [if_pos hd, if_pos hd]; rfl
  · rw [if_neg hd, if_neg hd]; rfl
structure Ai0 (h : List C5) (o : List Int) : Prop where
  nd : o.Nodup
  sub : ∀ n ∈ o, n ∈ m6 h
theorem Ai0.len {h : List C5} {o : List Int} (f : Ai0 h o) : o.length ≤ (m6 h).length := An9 f.nd f.sub
theorem Ai0.snoc {h : List C5} {o : List Int} (f : Ai0 h o) {i : Nat} {d : C5} (e : h[i]? = some d) (hy : d.Yes = true) (hn : (o.any fun y => (i : Int) == y) = false) : Ai0 h (o ++ [(i : Int)]) where
  nd := by
    refine List.nodup_append.2 ⟨f.nd, by simp, fun a ha b hb => ?_⟩
    have hb9 : b = (i : Int) := by simpa using hb
    rw [hb9]
    intro e9
    have := List.any_eq_false.1 hn a ha
    rw [e9] at this; simp at this
  sub := fun n hm => by
    rcases List.mem_append.1 hm with hm | hm
    · exact f.sub n hm
    · rw [List.mem_singleton.1 hm]
      have hi := (List.getElem?_eq_some_iff.1 e).1
      exact mem_yes.2 ⟨⟨by omega, by omega⟩, by rw [BZ1 e]; exact hy⟩
theorem Bw3 (a b : G4) : (a.Key == b.Key && (a.Val == b.Val && (a.There == b.There && true))) = decide (a = b) := by
  obtain ⟨k, v, t⟩ := a
  obtain ⟨k', v', t'⟩ := b
  rw [Bool.eq_iff_iff]
  simp [G4.mk.injEq]
end Go.M
namespace Go.Proofs.YtcfkbhnpfjjmjaaGreat
open Go Go.AV Go.M
attribute [local irreducible] OpW OpA OpS AWP B9 J5 C8 OpE RetOk H1 I9 Le Ev F6 J9 V9 Int.tmod Int.tdiv IntKind.wrap bandI
theorem Bc5 (rows ws : List A9) (h : rowsK rows) (hw : ws.length ≤ 1000) : B9 Tryz.prog 106 [AV.list 3 (rows.map A9.cs), AV.list 3 (ws.map A9.cs)] (AV.list 3 ((putD rows ws).map A9.cs)) := by
  have h1 := Ah4 rows ws (by have := Go.M.keys_len h.1.1 h.2; omega) qz8
  rw [Ar6 h.1.1] at h1
  exact h1
theorem CK7 {rows : List A9} (h : rowsK rows) {w : A9} (hw : w ∈ rows) : w.size ≤ 100 := by
  have h1 := (h.1.2 w hw).2
  unfold t3 l3Write l3Val at h1
  simp only [Bool.and_eq_true, decide_eq_true_eq] at h1
  have h2 := (o7 (h.2 w hw)).2
  unfold A9.size; omega
theorem Bm8 (h : List C5) (hl : h.length ≤ 1000) : B9 Tryz.prog 112 [AV.list 8 (h.map C5.cs)] (AV.int (m6 h).length) := by
 rw [yes_eq]
 refine B7 Tryz.func112 rfl Tryz.ntmps112 rfl ?_
 refine R16 ?_
 refine J7 [(2, _), (6, _), (7, _)] _ (fun (i : Nat) (n : Nat) => i ≤ h.length ∧ n = ((List.range i).filterMap (BS1 h)).length ∧ n ≤ i) (fun (i : Nat) (n : Nat) => []) (fun (i : Nat) (n : Nat) => [(3, AV.int n), (8, AV.int i)]) (fun (i : Nat) (n : Nat) => h.length - i) (0) (0) ?_ (F2 ⟨rfl, rfl, rfl, rfl, rfl, trivial⟩) ?_
 ·exact ⟨Nat.zero_le _, rfl, Nat.le_refl _⟩
 intro i n hinv
 refine R5 ?_
 refine A8 (A0 rfl) ?_ ?_
 ·intro h9
  have k9 := of_decide_eq_true h9; try simp only [A5] at k9
  have hlt : i < h.length := (by simpa using h9)
  obtain ⟨d, hd⟩ := get_some hlt
  refine R5 ?_
  refine A4 rfl (C7 rfl H5 I3 (A0 rfl) (A0 rfl) hd qz4) ?_
  refine R2 ?_
  intro b5
  refine R7 ?_
  refine A8 (A0 rfl) ?_ ?_
  ·intro h13
   refine R9 ?_
   refine G9 i n (i + 1) (n + 1) ?_ ?_ (O3 1 ⟨rfl, rfl, rfl, rfl, rfl, trivial⟩)
   ·exact ⟨by omega, by rw [Bm7 hd, if_pos h13, ← hinv.2.1], by omega⟩
   omega
  intro h13
  refine R5 ?_
  refine G9 i n (i + 1) (n) ?_ ?_ (O3 1 ⟨rfl, rfl, rfl, rfl, rfl, trivial⟩)
  ·exact ⟨by omega, by rw [Bm7 hd, if_neg (by rw [h13]; decide), ← hinv.2.1, Nat.add_zero], by omega⟩
  omega
 intro h9
 have k9 := of_decide_eq_false h9; try simp only [A5] at k9
 have hge : i = h.length := (by have h8 : h.length ≤ i := (by simpa using h9); omega)
 subst hge
 rw [← hinv.2.1]
 refine R7 ?_
 exact D5 rfl (A6 rfl B0)
theorem Bm9 (rows : List A9) (d : C5) (hd : d.size ≤ 1048576) : B9 Tryz.prog 114 [AV.list 3 (rows.map A9.cs), AV.agg d.cs] (AV.bool (confirms rows d)) := by
 have hgl : d.Got.length ≤ 1048576 := Nat.le_trans L7 (show sizeL G4.size d.Got ≤ 1048576 by unfold C5.size at hd; omega)
 refine B7 Tryz.func114 rfl Tryz.ntmps114 rfl ?_
 refine R3 ?_
 intro b3
 refine R11 ?_
 refine E5 [(0, _), (8, _), (9, _)] _ (fun (i : Nat) => i ≤ d.Got.length ∧ confirms rows d = ((d.Got.drop i).all fun g => decide (tell rows g.Key = g))) (fun (i : Nat) => []) (fun (i : Nat) => [(10, AV.int i)]) (fun (i : Nat) => d.Got.length - i) (0) ?_ (F2 ⟨rfl, rfl, rfl, rfl, trivial⟩) ?_
 ·exact ⟨Nat.zero_le _, rfl⟩
 intro i hinv
 refine R5 ?_
 refine A8 (A0 rfl) ?_ ?_
 ·intro h11
  have k11 := of_decide_eq_true h11; try simp only [A5] at k11
  have hlt : i < d.Got.length := (by simpa using h11)
  obtain ⟨g, hg⟩ := get_some hlt
  refine R5 ?_
  refine A4 rfl (C7 rfl J6 O5 (A0 rfl) (A0 rfl) hg qz4) ?_
  refine R2 ?_
  intro b6
  refine R7 ?_
  refine C2 rfl rfl (B2 rfl Tryz.call130 rfl (BA9 rows g.Key) (A1 (A0 rfl) (A1 (A0 rfl) A7))) ?_
  refine R1 ?_
  refine C2 rfl rfl (BG4 rfl j7 F1 F1 (A0 rfl) (A0 rfl) (n5 F1 i5 rfl rfl (AX3 L8) (n5 F1 i5 rfl rfl (AX3 L8) (n5 F1 e8 rfl rfl (Ak0 T4) Ax0)))) ?_
  refine R1 ?_
  refine A8 (A0 rfl) ?_ ?_
  ·intro h19
   have he9 : decide (tell rows g.Key = g) = false := (by rw [Bw3] at h19; simpa using h19)
   have he8 : confirms rows d = false := (by rw [hinv.2, drop_some hg, List.all_cons, he9, Bool.false_and])
   rw [he8]
   refine R5 ?_
   exact D5 rfl (A6 rfl B0)
  intro h19
  have he9 : decide (tell rows g.Key = g) = true := (by rw [Bw3] at h19; simpa using h19)
  refine R5 ?_
  refine F3 i (i + 1) ?_ ?_ (O3 1 ⟨rfl, rfl, rfl, rfl, trivial⟩)
  ·exact ⟨by omega, by rw [hinv.2, drop_some hg, List.all_cons, he9, Bool.true_and]⟩
  omega
 intro h11
 have k11 := of_decide_eq_false h11; try simp only [A5] at k11
 have hge : d.Got.length ≤ i := (by simpa using h11)
 rw [hinv.2, List.drop_eq_nil_of_le hge]
 refine R6 ?_
 exact D5 rfl (A6 rfl B0)
theorem Bn0 (h : List C5) (o : List Int) (i : Nat) (d : C5) (hd : h[i]? = some d) (hl : h.length ≤ 1000) (hg : goodHist h = true) : C8 Tryz.prog 113 [AV.list 8 (h.map C5.cs), ints o, AV.int (i : Int)] [] (fun r : Bool => r = true → d.Yes = true ∧ (o.any fun y => (i : Int) == y) = false) (fun _ => []) (fun r => AV.bool r) := by
 refine C3 Tryz.func113 rfl Tryz.ntmps113 rfl ?_
 refine R9 ?_
 refine A4 rfl (C7 rfl H5 I3 (A0 rfl) (A0 rfl) hd qz4) ?_
 refine R6 ?_
 refine P4 rfl (fun hc => B2 rfl Tryz.call58 rfl (BY0 o (i : Int)) (A1 (B1 rfl hc) (A1 (B1 rfl hc) A7))) ?_
 refine R2 ?_
 refine A8 (A0 rfl) ?_ ?_
 ·intro h19
  refine R5 ?_
  exact G1 [] (false) (qz148) rfl B0 (E6 rfl (A6 rfl B0))
 intro h19
 have hfy : d.Yes = true ∧ (o.any fun y => (i : Int) == y) = false := (by simpa using h19)
 refine R9 ?_
 refine E5 [(0, _), (1, _), (2, _), (20, _), (21, _)] _ (fun (j : Nat) => j ≤ h.length) (fun (j : Nat) => []) (fun (j : Nat) => [(22, AV.int j)]) (fun (j : Nat) => h.length - j) (0) ?_ (F2 ⟨rfl, rfl, rfl, rfl, rfl, rfl, trivial⟩) ?_
 ·exact Nat.zero_le _
 intro j hinv
 refine R5 ?_
 refine A8 (A0 rfl) ?_ ?_
 ·intro h23
  have k23 := of_decide_eq_true h23; try simp only [A5] at k23
  have hlt : j < h.length := Ai2
  obtain ⟨x, hx⟩ := get_some hlt
  have hxd := f8 hg (C6 hx)
  refine R6 ?_
  refine A4 rfl (C7 rfl H5 I3 (A0 rfl) (A0 rfl) hx qz4) ?_
  refine R2 ?_
  intro b8
  refine R15 ?_
  refine M6 rfl (O4 rfl rfl rfl) (fun hc => B2 rfl Tryz.call58 rfl (BY0 o (j : Int)) (A1 (B1 rfl hc) (A1 (B1 rfl hc) A7))) ?_
  refine R6 ?_
  refine M6 rfl (O4 rfl rfl rfl) (fun hc => C7 rfl H5 I3 (B1 rfl hc) (B1 rfl hc) hd qz6) ?_
  refine R1 ?_
  refine M6 rfl (O4 rfl rfl rfl) (fun hc => B2 rfl Tryz.call32 rfl (AB8 x d (Y9 hxd).2) (A1 (B1 rfl hc) (A1 (B1 rfl hc) A7))) ?_
  refine R2 ?_
  refine A8 (A0 rfl) ?_ ?_
  ·intro h47
   refine R5 ?_
   exact G1 [] (false) (qz148) rfl B0 (E6 rfl (A6 rfl B0))
  intro h47
  refine R5 ?_
  refine F3 j (j + 1) ?_ ?_ (O3 1 ⟨rfl, rfl, rfl, rfl, rfl, rfl, trivial⟩)
  ·exact qz8
  omega
 intro h23
 have k23 := of_decide_eq_false h23; try simp only [A5] at k23
 refine R6 ?_
 exact G1 [] (true) (qz148) rfl B0 (E6 rfl (A6 rfl B0))
theorem Bs8 (h : List C5) (hl : h.length ≤ 10) (hg : goodHist h = true) (hd : d7 h) : ∀ (m : Nat) (o : List Int) (rows : List A9), (m6 h).length - o.length = m → Ai0 h o → rowsK rows → C8 Tryz.prog 82 [AV.list 8 (h.map C5.cs), ints o, AV.list 3 (rows.map A9.cs)] [] (fun x : List Int × Bool => x.1.length ≤ 10) (fun _ => []) (fun x => AV.tup [ints x.1, AV.bool x.2]) := by
 intro m
 induction m using Nat.strongRecOn
 rename_i m ih
 intro o rows hm hf hrk
 have hfl := hf.len
 have hyl := yes_len h
 have hrl := Go.M.keys_len hrk.1.1 hrk.2
 refine C3 Tryz.func82 rfl Tryz.ntmps82 rfl ?_
 refine R2 ?_
 refine A4 rfl (D4 rfl (P8 (sz := 1))) ?_
 refine R8 ?_
 refine A4 rfl (B2 rfl Tryz.call112 rfl (Bm8 h qz8) (A1 (A0 rfl) A7)) ?_
 refine R2 ?_
 refine A8 (A0 rfl) ?_ ?_
 ·intro h16
  have k16 := D2 h16; try simp only [A5] at k16
  refine R7 ?_
  exact G1 [] ((o, true)) (qz143) rfl B0 (N4 rfl D0 (B6 (A6 rfl B0) (B6 (A6 rfl B0) E8)))
 intro h16
 have k16 := D6 h16; try simp only [A5] at k16
 have hne : o.length < (m6 h).length := (by simp only [A5] at h16; have h9 := D6 h16; omega)
 refine R9 ?_
 refine E5 [(0, _), (1, _), (2, _), (19, _)] _ (fun (i : Nat) => i ≤ h.length) (fun (i : Nat) => []) (fun (i : Nat) => [(20, AV.int i)]) (fun (i : Nat) => h.length - i) (0) ?_ (F2 ⟨rfl, rfl, rfl, rfl, rfl, trivial⟩) ?_
 ·exact Nat.zero_le _
 intro i hinv
 refine R5 ?_
 refine A8 (A0 rfl) ?_ ?_
 ·intro h21
  have k21 := of_decide_eq_true h21; try simp only [A5] at k21
  have hlt : i < h.length := (by simpa using h21)
  obtain ⟨d, hdx⟩ := get_some hlt
  have hds := hd.2 d (C6 hdx)
  have hdw := AI6 (f8 hg (C6 hdx))
  have hdk := hd.1 d (C6 hdx)
  have hput := AL8 hrk hdw.2.1 hdk
  have hwl : d.Writes.length ≤ 1000 := (by have h9 := AH1 (f := A9.size) (l := d.Writes); have h8 : sizeL A9.size d.Writes ≤ 5000 := (by unfold C5.size at hds; omega); have h7 := Go.M.keys_len hdw.2.2 hdk; omega)
  refine R14 ?_
  refine E4 [] rfl rfl rfl rfl Tryz.call113 rfl (Bn0 h o i d hdx qz8 hg) (A1 (A0 rfl) (A1 (A0 rfl) (A1 (A0 rfl) A7))) rfl ?_
  intro x26 ok26
  refine R5 ?_
  refine P4 rfl (fun hc => C7 rfl H5 I3 (B1 rfl hc) (B1 rfl hc) hdx qz6) ?_
  refine R1 ?_
  refine P4 rfl (fun hc => B2 rfl Tryz.call114 rfl (Bm9 rows d qz8) (A1 (B1 rfl hc) (A1 (B1 rfl hc) A7))) ?_
  refine R3 ?_
  refine A8 (A0 rfl) ?_ ?_
  ·intro h36
   refine R5 ?_
   refine F3 i (i + 1) ?_ ?_ (F2 ⟨rfl, rfl, rfl, rfl, rfl, trivial⟩)
   ·exact qz8
   omega
  intro h36
  have hfi := ok26 (by simp at h36; exact h36.1)
  have hf2 := hf.snoc hdx hfi.1 hfi.2
  have hrec := ih ((m6 h).length - (o ++ [(i : Int)]).length) (by rw [G2]; simp; omega) (o ++ [(i : Int)]) (putD rows d.Writes) rfl hf2 hput.1
  rw [show ints (o ++ [(i : Int)]) = AV.list 1 ((o.map fun x => [AV.int x]) ++ [[AV.int (i : Int)]]) from congrArg (AV.list 1) List.map_append] at hrec
  refine R6 ?_
  refine A4 rfl (C7 rfl H5 I3 (A0 rfl) (A0 rfl) hdx qz4) ?_
  refine R2 ?_
  refine A4 rfl (B2 rfl Tryz.call106 rfl (Bc5 rows d.Writes hrk hwl) (A1 (A0 rfl) (A1 (A0 rfl) A7))) ?_
  refine R6 ?_
  refine A4 rfl (B2 rfl Tryz.call115 rfl (Bp2 (putD rows d.Writes) (by have h9 := a9 (f := A9.size) (c := 100) (l := putD rows d.Writes) fun w hw => CK7 hput.1 hw; have h8 : (putD rows d.Writes).length * (100 + 1) ≤ 8 * 101 := Nat.mul_le_mul_right _ hput.2; omega)) (A1 (A0 rfl) A7)) ?_
  refine R2 ?_
  refine A8 (A0 rfl) ?_ ?_
  ·intro h46
   refine R5 ?_
   refine F3 i (i + 1) ?_ ?_ (F2 ⟨rfl, rfl, rfl, rfl, rfl, trivial⟩)
   ·exact qz8
   omega
  intro h46
  refine R5 ?_
  refine E4 [] rfl rfl rfl rfl Tryz.call33 rfl (o8 o qz8) (A1 (A0 rfl) A7) rfl ?_
  intro x50 ok50
  refine R2 ?_
  refine G0 (by' := 8) 0 rfl rfl rfl rfl B3 Tryz.type3 rfl rfl rfl rfl rfl rfl (A0 rfl) (A0 rfl) rfl qz4 ?_
  intro v53_1
  refine AS2 (f0 [0] 53 rfl rfl (J3 (C6 (i := 0) rfl) F5) M9) ?_
  refine R1 ?_
  refine E4 [] rfl rfl rfl rfl Tryz.call82 rfl (hrec) (A1 (A0 rfl) (A1 (A0 rfl) (A1 (A0 rfl) A7))) rfl ?_
  intro x55 ok55
  refine R10 ?_
  refine A8 (A0 rfl) ?_ ?_
  ·intro h58
   refine R7 ?_
   exact G1 [] ((x55.1, true)) (qz143) rfl B0 (N4 rfl D0 (B6 (A6 rfl B0) (B6 (A6 rfl B0) E8)))
  intro h58
  refine R5 ?_
  refine F3 i (i + 1) ?_ ?_ (F2 ⟨rfl, rfl, rfl, rfl, rfl, trivial⟩)
  ·exact qz8
  omega
 intro h21
 have k21 := of_decide_eq_false h21; try simp only [A5] at k21
 refine R3 ?_
 refine A4 rfl (D4 rfl (P8 (sz := 1))) ?_
 refine R3 ?_
 exact G1 [] (([], false)) (qz143) rfl B0 (N4 rfl D0 (B6 (A6 rfl B0) (B6 (A6 rfl B0) E8)))
theorem Bc6 (h : List C5) (hl : h.length ≤ 10) (hd : d7 h) : C8 Tryz.prog 52 [AV.list 8 (h.map C5.cs)] [] (fun x : List Int × Bool × Bool => x.1.length ≤ 10) (fun _ => []) (fun x => AV.tup [ints x.1, AV.bool x.2.1, AV.bool x.2.2]) := by
 refine C3 Tryz.func52 rfl Tryz.ntmps52 rfl ?_
 refine R2 ?_
 refine A4 rfl (D4 rfl (P8 (sz := 1))) ?_
 refine R7 ?_
 refine A4 rfl (B2 rfl Tryz.call48 rfl (Av2 h (fun d hdm => Nat.le_trans (hd.2 d hdm) D0)) (A1 (A0 rfl) A7)) ?_
 refine R2 ?_
 refine A8 (A0 rfl) ?_ ?_
 ·intro h9
  refine R2 ?_
  refine A4 rfl (D4 rfl (P8 (sz := 1))) ?_
  refine R4 ?_
  exact G1 [] (([], false, false)) ((by first | exact Nat.zero_le _ | exact ok12)) rfl B0 (N4 rfl D0 (B6 (A6 rfl B0) (B6 (A6 rfl B0) (B6 (A6 rfl B0) E8))))
 intro h9
 have hg : goodHist h = true := (by simpa using h9)
 refine R4 ?_
 refine E4 [] rfl rfl rfl rfl Tryz.call82 rfl (Bs8 h hl hg hd _ [] [] rfl ⟨List.nodup_nil, fun n hn => by cases hn⟩ BV5) (A1 (A0 rfl) (A1 P8 (A1 P8 A7))) rfl ?_
 intro x12 ok12
 refine R15 ?_
 exact G1 [] ((x12.1, x12.2, true)) ((by first | exact Nat.zero_le _ | exact ok12)) rfl B0 (N4 rfl D0 (B6 (A6 rfl B0) (B6 (A6 rfl B0) (B6 (A6 rfl B0) E8))))
end Go.Proofs.YtcfkbhnpfjjmjaaGreat
namespace Go.M
open Go.AV
theorem CD9 {h : List C5} (H : d7 h) {k : Nat} {d d' : C5} (hd : h[k]? = some d) (hw : d'.Writes = d.Writes) (hg : d'.Got = d.Got) : d7 (h.set k d') := ⟨p6 (P := fun d : C5 => ∀ w ∈ d.Writes, w.Key ∈ keyD) H.1 (by rw [hw]; exact H.1 d (C6 hd)), p6 (P := fun d : C5 => d.size ≤ 5000) H.2 (by have := H.2 d (C6 hd); unfold C5.size at *; rw [hw, hg]; exact this)⟩
end Go.M
namespace Go.Proofs.YtcfkbhnpfjjmjaaGreat
open Go Go.AV Go.M
attribute [local irreducible] OpW OpA OpS AWP B9 J5 C8 OpE RetOk H1 I9 Le Ev F6 J9 V9 Int.tmod Int.tdiv IntKind.wrap bandI
theorem Ay6 (b : Nat) (code : List Int) (hcode : Y4 code) (c : N0) (hp : c.p ≤ 800000) : C8 Tryz.prog 43 [AV.ptr b 0] [.box b 55 (Q5 code c)] (fun x : N0 × List C5 × Value => x.1.p ≤ c.p + 3010 ∧ x.2.1.length ≤ 10 ∧ d7 x.2.1) (fun x => [.box b 55 (Q5 code x.1), .arr x.2.2 36 8 (x.2.1.map C5.cs)]) (fun x => AV.is x.2.2) := by
 refine C3 Tryz.func43 rfl Tryz.ntmps43 rfl ?_
 refine R2 ?_
 refine A4 rfl (D4 rfl F4) ?_
 refine R4 ?_
 refine E4 [0] rfl rfl rfl rfl Tryz.call70 rfl (BR2 _ _ hcode _ qz8) (A1 (A0 rfl) A7) rfl ?_
 intro x5 ok5
 refine R9 ?_
 refine A8 (A0 rfl) ?_ ?_
 ·intro h8
  have k8 := of_decide_eq_true h8; try simp only [A5] at k8
  have hpos : 0 < x5.2.1.length := (by simp only [A5] at h8; simp at h8; omega)
  obtain ⟨d, hd⟩ := get_some hpos
  refine R3 ?_
  refine E4 [0] rfl rfl rfl rfl Tryz.call22 rfl (L1 _ _ hcode _ _ qz8 qz8) (A1 (A0 rfl) (A1 D8 A7)) rfl ?_
  intro x10 ok10
  refine R7 ?_
  refine A8 (A0 rfl) ?_ ?_
  ·intro h11
   have k11 := D2 h11; try simp only [A5] at k11
   refine R3 ?_
   refine A4 rfl (D7 1 rfl H5 I3 (A0 rfl) rfl D8 qz8 M3) ?_
   refine A4 rfl (J2 1 rfl V4 rfl B4 (A0 rfl) rfl rfl Aq2) ?_
   refine A4 rfl (K5 1 rfl (A0 rfl) rfl H3 Aq2 rfl) ?_
   refine A4 rfl (D7 1 rfl H5 I3 (A0 rfl) rfl D8 qz8 M3) ?_
   refine A4 rfl (J2 1 rfl V4 rfl B4 (A0 rfl) rfl rfl Aq2) ?_
   refine T3 1 rfl rfl rfl (A0 rfl) (A0 rfl) (M5 _ _) rfl B4 Aq2 rfl ?_
   refine R7 ?_
   exact G1 [0, 0] ((x10.1, x5.2.1.set 0 { d with End := d.Begin }, x5.2.2)) (qz44) rfl Ap7 (E6 rfl (A6 rfl B0))
  intro h11
  have k11 := D6 h11; try simp only [A5] at k11
  refine R5 ?_
  refine A8 (A0 rfl) ?_ ?_
  ·intro h20
   have k20 := D2 h20; try simp only [A5] at k20
   refine R2 ?_
   refine A4 rfl (D7 1 rfl H5 I3 (A0 rfl) rfl D8 qz8 M3) ?_
   refine A4 rfl (J2 1 rfl V4 rfl B4 (A0 rfl) rfl rfl Aq2) ?_
   refine T3 1 rfl rfl rfl (A0 rfl) D8 (M5 _ _) rfl B4 Aq2 rfl ?_
   refine R7 ?_
   exact G1 [0, 0] ((x10.1, x5.2.1.set 0 { d with Txn := 0 }, x5.2.2)) (qz44) rfl Ap7 (E6 rfl (A6 rfl B0))
  intro h20
  have k20 := D6 h20; try simp only [A5] at k20
  refine R5 ?_
  refine A8 (A0 rfl) ?_ ?_
  ·intro h25
   have k25 := D2 h25; try simp only [A5] at k25
   refine R2 ?_
   refine A4 rfl (D7 1 rfl H5 I3 (A0 rfl) rfl D8 qz8 M3) ?_
   refine A4 rfl (J2 1 rfl V4 rfl O9 (A0 rfl) rfl rfl Aq2) ?_
   refine T3 1 rfl rfl rfl (A0 rfl) w5 (y7 _) rfl O9 Aq2 rfl ?_
   refine R7 ?_
   exact G1 [0, 0] ((x10.1, x5.2.1.set 0 { d with Look := true }, x5.2.2)) (qz44) rfl Ap7 (E6 rfl (A6 rfl B0))
  intro h25
  have k25 := D6 h25; try simp only [A5] at k25
  refine R7 ?_
  exact G1 [0, 0] ((x10.1, x5.2.1, x5.2.2)) (qz44) rfl Ap7 (E6 rfl (A6 rfl B0))
 intro h8
 have k8 := of_decide_eq_false h8; try simp only [A5] at k8
 refine R7 ?_
 exact G1 [0, 0] ((x5.1, x5.2.1, x5.2.2)) (qz44) rfl Ap7 (E6 rfl (A6 rfl B0))
theorem AU1 (b : Nat) (code : List Int) (hcode : Y4 code) (c : N0) (hp : c.p ≤ 800000) : C8 Tryz.prog 43 [AV.ptr b 0] [.box b 55 (Q5 code c)] (fun x : N0 × List C5 => x.1.p ≤ c.p + 3010 ∧ x.2.length ≤ 10 ∧ d7 x.2) (fun x => [.box b 55 (Q5 code x.1)]) (fun x => AV.list 8 (x.2.map C5.cs)) :=
  u4 (fun x => (x.1, x.2.1)) (fun x => [.arr x.2.2 36 8 (x.2.1.map C5.cs)]) (fun x => [.box b 55 (Q5 code x.1)]) (Ay6 b code hcode c hp) (fun _ h => h) (fun x _ => J3 (List.mem_singleton.2 rfl) F5) (fun x _ => List.perm_append_comm (l₁ := [_])) (fun _ _ => c9 0 rfl rfl M9) (fun x _ => Ag7 ⟨rfl, rfl, f6⟩ AY9)
theorem CK8 {l : List Int} {k : Nat} : (l.map fun n => [AV.int n]).take k = (l.take k).map fun n => [AV.int n] := List.map_take.symm
theorem BR4 (b : Nat) (code : List Int) (hcode : Y4 code) (c : N0) (n : Nat) (hn : n ≤ 20) (hp : c.p ≤ 4000000) : C8 Tryz.prog 54 [AV.ptr b 0, AV.int n] [.box b 55 (Q5 code c)] (fun x : N0 × List Int × Value => x.2.1.length ≤ 20) (fun x => [.box b 55 (Q5 code x.1), .arr x.2.2 3 1 (x.2.1.map fun n => [AV.int n])]) (fun x => AV.is x.2.2) := by
 refine C3 Tryz.func54 rfl Tryz.ntmps54 rfl ?_
 refine R2 ?_
 refine A4 rfl (D4 rfl F4) ?_
 refine R3 ?_
 refine O8 3 1 rfl rfl rfl rfl F4 ?_
 intro v5
 refine R7 ?_
 refine AWP.le (C1 [1, 0] rfl) ?_
 refine o6 [(0, _), (1, _), (4, _)] _ (fun (k : Nat) (cc : N0) (l : List Int) (v : Value) => k ≤ n ∧ l.length = k ∧ cc.p ≤ c.p + 4 * k) (fun (k : Nat) (cc : N0) (l : List Int) (v : Value) => [.box b 55 (Q5 code cc), .arr v 3 1 (l.map fun n => [AV.int n])]) (fun (k : Nat) (cc : N0) (l : List Int) (v : Value) => [(5, AV.is v), (6, AV.int k)]) (fun (k : Nat) (cc : N0) (l : List Int) (v : Value) => n - k) (0) (c) ([]) (v5) ?_ (I8 B0 ⟨rfl, rfl, rfl, rfl, rfl, trivial⟩) ?_
 ·exact ⟨Nat.zero_le _, rfl, by omega⟩
 intro k cc l v hinv
 refine R7 ?_
 refine A8 (A0 rfl) ?_ ?_
 ·intro h11
  have k11 := of_decide_eq_true h11; try simp only [A5] at k11
  have hkn : k < n := (by simp at h11; omega)
  refine R9 ?_
  refine E4 [0] rfl rfl rfl rfl Tryz.call22 rfl (L1 _ _ hcode _ _ Ai3 qz8) (A1 (A0 rfl) (A1 (A0 rfl) A7)) rfl ?_
  intro x18 ok18
  rw [A5] at ok18
  refine R6 ?_
  refine A4 rfl (Bd9 1 rfl B3 B4 (A0 rfl) rfl (A0 rfl) qz4 qz4) ?_
  refine AT3 [] rfl rfl rfl rfl Tryz.call33 rfl (o8 (l.drop x18.2.toNat) (by rw [List.length_drop]; omega)) rfl (T2 (BG7 (A0 rfl) (Bg1 (C6 (i := 1) rfl) qz8 qz8)) i0) qz0 qz0 qz0 ?_
  intro x22 ok22
  refine R3 ?_
  refine AS2 (f0 [0] 8 rfl rfl (J3 (C6 (i := 0) rfl) F5) (c9 0 rfl rfl M9)) ?_
  refine R2 ?_
  refine Bf5 1 rfl rfl rfl rfl B3 B4 (A0 rfl) rfl (A0 rfl) qz4 qz4 ?_
  intro v25_1
  refine sq_own (by first | (simp only [CK8, pick, Aw5, Aj0, AV5, AR7, AM9, List.nil_append, Aj1, AV6, List.append_nil]; exact rfl) | exact rfl) ?_
  refine AT3 [] rfl rfl rfl rfl Tryz.call33 rfl (o8 (l.take x18.2.toNat) BF4) rfl (T2 (AX2 1 (A0 rfl) rfl) i0) qz0 qz0 qz0 ?_
  intro x26 ok26
  refine R2 ?_
  refine G0 (by' := 8) 0 rfl rfl rfl rfl B3 Tryz.type3 rfl rfl rfl rfl rfl rfl (A0 rfl) (A0 rfl) rfl qz4 ?_
  intro v29_2
  refine R1 ?_
  refine G0 (by' := 8) 0 rfl rfl rfl rfl B3 Tryz.type3 rfl rfl rfl rfl rfl rfl (A0 rfl) (A0 rfl) rfl (by simp only [G2, A5, H2, List.length_drop, P0]; omega) ?_
  intro v31_3
  refine R7 ?_
  refine Y7 k cc l v (k + 1) (x18.1) ((l.take x18.2.toNat ++ [(k : Int)]) ++ l.drop x18.2.toNat) (v31_3) ?_ ?_ (Le.trans (C1 [2, 1, 0] rfl) (E3 1 (by (rw [List.map_append, List.map_append, List.map_take, List.map_drop]; rfl)) ⟨rfl, rfl, rfl, rfl, rfl, trivial⟩))
  ·exact ⟨by omega, by rw [G2, G2, H2, List.length_drop]; simp; omega, by omega⟩
  omega
 intro h11
 have k11 := of_decide_eq_false h11; try simp only [A5] at k11
 have hln : l.length = n := (by simp at h11; omega)
 refine R9 ?_
 refine AK1 rfl rfl (O4 rfl rfl rfl) ?_ ?_
 ·intro gh37
  refine E4 [0] rfl rfl rfl rfl Tryz.call53 rfl (AB0 _ _ hcode _ _ D0 qz8) (A1 (B1 rfl gh37) (A1 D8 A7)) rfl ?_
  intro x37 ok37
  refine R2 ?_
  refine A8 (A0 rfl) ?_ ?_
  ·intro h38
   have hl0 : 0 < l.length := (by simp only [A5] at h38; simp at h38; omega)
   obtain ⟨x0, hx0⟩ := get_some hl0
   refine R3 ?_
   refine A4 rfl (D7 1 rfl B3 B4 (A0 rfl) rfl D8 qz8 g9) ?_
   refine N3 1 rfl rfl rfl (A0 rfl) (A0 rfl) (M5 _ _) rfl B4 rfl qz4 ?_
   refine R7 ?_
   exact G1 [0, 0] ((x37.1, l.set 0 (n : Int), v)) (qz107) rfl Ap7 (E6 rfl (A6 rfl B0))
  intro h38
  refine R7 ?_
  exact G1 [0, 0] ((x37.1, l, v)) (qz107) rfl Ap7 (E6 rfl (A6 rfl B0))
 intro gh37
 refine A4 rfl (BF9 rfl (A0 rfl) (Ag6 (x := AV.bool false) gh37)) ?_
 refine R1 ?_
 refine A8 (A0 rfl) ?_ ?_
 ·intro h38
  (exfalso; have h9 := gh37; simp at h9 h38 <;> omega)
 intro h38
 refine R7 ?_
 exact G1 [0, 0] ((cc, l, v)) (qz107) rfl Ap7 (E6 rfl (A6 rfl B0))
theorem Ad5 (b : Nat) (code : List Int) (hcode : Y4 code) (c : N0) (n : Nat) (hn : n ≤ 20) (hp : c.p ≤ 4000000) : C8 Tryz.prog 54 [AV.ptr b 0, AV.int n] [.box b 55 (Q5 code c)] (fun x : N0 × List Int => x.2.length ≤ 20) (fun x => [.box b 55 (Q5 code x.1)]) (fun x => ints x.2) :=
  u4 (fun x => (x.1, x.2.1)) (fun x => [.arr x.2.2 3 1 (x.2.1.map fun n => [AV.int n])]) (fun x => [.box b 55 (Q5 code x.1)]) (BR4 b code hcode c n hn hp) (fun _ h => h) (fun x _ => J3 (List.mem_singleton.2 rfl) F5) (fun x _ => List.perm_append_comm (l₁ := [_])) (fun _ _ => c9 0 rfl rfl M9) (fun x _ => Ag7 ⟨rfl, rfl, f6⟩ AY9)
theorem Ay7 (code : List Int) (hcode : Y4 code) : C8 Tryz.prog 21 [AJ1 code] [] (fun x : List C5 × List Int => (x.1.length ≤ 10 ∧ d7 x.1) ∧ x.2.length ≤ 20) (fun _ => []) (fun x => AV.tup [AV.list 8 (x.1.map C5.cs), ints x.2]) := by
 refine C3 Tryz.func21 rfl Tryz.ntmps21 rfl ?_
 refine R2 ?_
 refine A4 rfl (D4 rfl F4) ?_
 refine A4 rfl (D4 rfl F4) ?_
 refine R6 ?_
 intro b11
 refine R5 ?_
 refine E4 [0] rfl rfl rfl rfl Tryz.call43 rfl (AU1 _ _ hcode ⟨0, 0⟩ D0) (A1 (A0 rfl) A7) rfl ?_
 intro x13 ok13
 have hp13 : x13.1.p ≤ 3010 := ok13.1
 refine R6 ?_
 refine E4 [] rfl rfl rfl rfl Tryz.call52 rfl (Bc6 x13.2 ok13.2.1 ok13.2.2) (A1 (A0 rfl) A7) rfl ?_
 intro x16 ok16
 refine R16 ?_
 refine AK1 rfl rfl (O4 rfl rfl rfl) ?_ ?_
 ·intro gh26
  refine E4 [0] rfl rfl rfl rfl Tryz.call53 rfl (AB0 _ _ hcode _ _ D0 qz8) (A1 (B1 rfl gh26) (A1 D8 A7)) rfl ?_
  intro x26 ok26
  refine R2 ?_
  refine A8 (A0 rfl) ?_ ?_
  ·intro h27
   refine R8 ?_
   exact G1 [] ((x13.2, x16.1)) (qz92) rfl B0 (N4 rfl D0 (B6 (A6 rfl B0) (B6 (A6 rfl B0) E8)))
  intro h27
  refine R7 ?_
  refine E4 [0] rfl rfl rfl rfl Tryz.call54 rfl (Ad5 _ _ hcode _ (x13.2.map C5.cs).length Ai3 (by have h9 : True := trivial; first | omega | (have h8 := ok26; omega))) (A1 (A0 rfl) (A1 (A0 rfl) A7)) rfl ?_
  intro x34 ok34
  refine R4 ?_
  exact G1 [] ((x13.2, x34.2)) (qz92) rfl B0 (N4 rfl D0 (B6 (A6 rfl B0) (B6 (A6 rfl B0) E8)))
 intro gh26
 refine A4 rfl (BF9 rfl (A0 rfl) (Ag6 (x := AV.bool false) gh26)) ?_
 refine R1 ?_
 refine A8 (A0 rfl) ?_ ?_
 ·intro h27
  refine R8 ?_
  exact G1 [] ((x13.2, x16.1)) (qz92) rfl B0 (N4 rfl D0 (B6 (A6 rfl B0) (B6 (A6 rfl B0) E8)))
 intro h27
 refine R7 ?_
 refine E4 [0] rfl rfl rfl rfl Tryz.call54 rfl (Ad5 _ _ hcode _ (x13.2.map C5.cs).length Ai3 (by have h9 : True := trivial; first | omega | (have h8 := ok26; omega))) (A1 (A0 rfl) (A1 (A0 rfl) A7)) rfl ?_
 intro x34 ok34
 refine R4 ?_
 exact G1 [] ((x13.2, x34.2)) (qz92) rfl B0 (N4 rfl D0 (B6 (A6 rfl B0) (B6 (A6 rfl B0) E8)))
theorem BF1 (code : List Int) (hcode : Y4 code) : C8 Tryz.prog 6 [AJ1 code] [] (fun x : (List C5 × List Int) × Int => (x.1.1.length ≤ 10 ∧ d7 x.1.1) ∧ x.1.2.length ≤ 20) (fun _ => []) (fun x => AV.tup [AV.list 8 (x.1.1.map C5.cs), ints x.1.2, AV.int x.2]) := by
  refine C3 Tryz.func6 rfl Tryz.ntmps6 rfl ?_
  refine R2 ?_
  refine A4 rfl (D4 rfl F4) ?_
  refine A4 rfl (D4 rfl F4) ?_
  refine R5 ?_
  refine E4 [] rfl rfl rfl rfl Tryz.call21 rfl (Ay7 code hcode) (A1 (A0 rfl) A7) rfl ?_
  intro x10 ok10
  refine R11 ?_
  intro b15
  refine R9 ?_
  refine A4 rfl (B2 rfl Tryz.call23 rfl (Z1 _ _) (A1 D8 (A1 (A0 rfl) A7))) ?_
  refine E4 [0] rfl rfl rfl rfl Tryz.call22 rfl (L1 _ _ hcode ⟨0, 0⟩ _ (by have h9 := ok10.2; simp only [A5]; split <;> omega) D0) (A1 (A0 rfl) (A1 (A0 rfl) A7)) rfl ?_
  intro x22 ok22
  refine R5 ?_
  exact G1 [] ((x10, x22.2)) (ok10) rfl B0 (N4 rfl D0 (B6 (A6 rfl B0) (B6 (A6 rfl B0) (B6 (A6 rfl B0) E8))))
theorem Ay8 (code : List Int) (hcode : Y4 code) : C8 Tryz.prog 40 [AJ1 code] [] (fun x : C5 × C5 => x.1.size ≤ 5000 ∧ x.2.size ≤ 5000) (fun _ => []) (fun x => AV.tup [AV.agg x.1.cs, AV.agg x.2.cs]) := by
 refine C3 Tryz.func40 rfl Tryz.ntmps40 rfl ?_
 refine R3 ?_
 intro b2
 refine R1 ?_
 intro b3
 refine R6 ?_
 intro b8
 refine R5 ?_
 refine E4 [0] rfl rfl rfl rfl Tryz.call43 rfl (AU1 _ _ hcode ⟨0, 0⟩ D0) (A1 (A0 rfl) A7) rfl ?_
 intro x10 ok10
 refine R9 ?_
 refine A8 (A0 rfl) ?_ ?_
 ·intro h13
  have k13 := of_decide_eq_true h13; try simp only [A5] at k13
  refine R8 ?_
  refine AE4 2 6 3 rfl rfl M9 ?_
  refine AE4 2 7 3 rfl rfl M9 ?_
  refine AE4 1 6 3 rfl rfl M9 ?_
  refine AE4 1 7 3 rfl rfl M9 ?_
  exact G1 [] ((⟨1, 0, -1, false, false, 0, [], []⟩, ⟨2, 3, 5, false, false, 0, [], []⟩)) (qz137) rfl B0 (N4 rfl D0 (B6 (G7 (ys := _) 2 rfl rfl u9 I3 rfl) (B6 (G7 (ys := _) 1 rfl rfl u9 I3 rfl) E8)))
 intro h13
 have k13 := of_decide_eq_false h13; try simp only [A5] at k13
 have hl2 : 2 ≤ x10.2.length := (by simp only [A5] at h13; simp at h13; omega)
 obtain ⟨d0, hd0⟩ := get_some (show 0 < x10.2.length by omega)
 obtain ⟨d1, hd1⟩ := get_some (show 1 < x10.2.length by omega)
 refine R2 ?_
 refine P5 [] 7 (.pure 0 (.pure 1 (.pure 2 (.pure 3 (.pure 4 (.pure 5 (.e1 6 .nil))))))) F1 F1 rfl AY7 ?_
 refine R1 ?_
 refine J0 rfl rfl rfl (fun ext => C7 rfl H5 I3 (A0 rfl) D8 hd0 qz4) ?_
 refine R2 ?_
 refine J0 rfl rfl rfl (fun ext => C7 rfl H5 I3 (A0 rfl) D8 hd1 qz4) ?_
 refine R2 ?_
 refine W1 rfl rfl rfl (U5 2 rfl rfl (A0 rfl) (A0 rfl) (U4 _) rfl I3 rfl) (fun a _ => qz3) ?_
 intro _ _
 refine R4 ?_
 exact G1 [] ((d0, d1)) (qz137) rfl B0 (N4 rfl D0 (B6 (G7 (ys := _) 2 rfl rfl u9 I3 rfl) (B6 (G7 (ys := _) 1 rfl rfl u9 I3 rfl) E8)))
theorem BL7 (code : List Int) (hcode : Y4 code) : C8 Tryz.prog 11 [AJ1 code] [] (fun x : C5 × C5 => x.1.size ≤ 5000 ∧ x.2.size ≤ 5000) (fun _ => []) (fun x => AV.tup [AV.agg x.1.cs, AV.agg x.2.cs]) := by
  refine C3 Tryz.func11 rfl Tryz.ntmps11 rfl ?_
  refine R3 ?_
  intro b2
  refine R1 ?_
  intro b3
  refine R4 ?_
  refine E4 [] rfl rfl rfl rfl Tryz.call40 rfl (Ay8 code hcode) (A1 (A0 rfl) A7) rfl ?_
  intro x5 ok5
  refine R6 ?_
  exact G1 [] (x5) (ok5) rfl B0 (N4 rfl D0 (B6 (G7 (ys := _) 1 rfl rfl u9 I3 rfl) (B6 (G7 (ys := _) 0 rfl rfl u9 I3 rfl) E8)))
end Go.Proofs.YtcfkbhnpfjjmjaaGreat
