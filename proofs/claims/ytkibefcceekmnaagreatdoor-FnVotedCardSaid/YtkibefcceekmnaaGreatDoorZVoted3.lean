/- Texts of the claim, part 3. -/
import Derived.Test.YtkibefcceekmnaaGreatDoorRows
import Derived.Lib.ItoaNum
import Derived.Lib.ItoaMem
import Derived.Lib.Split
import Derived.Lib.SplitLaws
import Derived.Lib.AtoiAllCases
import Derived.Lib.Strings
import Derived.Lib.IndexMore
import Derived.Shelf.Strconv.Itoa3
import Derived.Shelf.Strconv.ErrVarAll
import Derived.Test.YtkibefcceekmnaaGreatDoorProg
import Derived.Shelf.Vars
import Derived.Stop.LaidErr
import Derived.Test.YtkibefcceekmnaaGreatDoorZVoted2
set_option linter.unusedVariables false
set_option linter.unusedSimpArgs false
set_option maxRecDepth 100000
set_option maxHeartbeats 4000000
namespace Go.Proofs.YtkibefcceekmnaaGreatDoor
open Go Go.AV Go.M
attribute [local irreducible] OpW OpA OpS AWP D3 P2 RetOk M3 Le Ev I4
theorem v1 (l : List A7) (pre : A7 → Prop) (f : A7 → Bool) (hp : ∀ x ∈ l, pre x) : D3 Tryz.prog 98 [AV.list 4 (l.map A7.cs), AV.fun1 Tryz.prog pre (fun a => AV.agg a.cs) (fun a => AV.bool (f a))] (AV.int (idxFrom f l 0)) := by
 refine C6 Tryz.func98 rfl Tryz.ntmps98 rfl ?_
 refine n3 (t := 0) rfl fun hl => ?_
 try simp only [A4] at hl
 refine R12 ?_
 refine J0 [(0, _), (1, _), (7, _)] _ (fun (i : Nat) => i ≤ l.length ∧ idxFrom f l 0 = idxFrom f (l.drop i) i) (fun (i : Nat) => []) (fun (i : Nat) => [(8, AV.int i)]) (fun (i : Nat) => l.length - i) (0) ?_ (K6 ⟨rfl, rfl, rfl, rfl, trivial⟩) ?_
 ·exact ⟨Nat.zero_le _, rfl⟩
 intro i hinv
 refine R5 ?_
 refine A6 (A0 rfl) ?_ ?_
 ·intro h9
  have k9 := of_decide_eq_true h9; try simp only [A4] at k9
  have hlt : i < l.length := by omega
  obtain ⟨x, hx⟩ := F8 hlt
  refine R13 ?_
  refine A2 rfl (H3 rfl A9 E2 (A0 rfl) (A0 rfl) hx qz3) ?_
  refine R1 ?_
  refine A2 rfl (AW6 rfl (A0 rfl) x (hp x (D9 hx)) (A0 rfl)) ?_
  refine R1 ?_
  refine A6 (A0 rfl) ?_ ?_
  ·intro h16
   refine R6 ?_
   exact H5 rfl (A8 rfl Ac2)
  intro h16
  refine R5 ?_
  refine L0 i (i + 1) ?_ ?_ (K6 ⟨rfl, rfl, rfl, rfl, trivial⟩)
  ·exact ⟨by omega, by rw [hinv.2, drop_some hx, idxFrom, h16]; simp⟩
  omega
 intro h9
 have k9 := of_decide_eq_false h9; try simp only [A4] at k9
 have hge : l.length ≤ i := by omega
 refine R6 ?_
 exact H5 rfl (A8 rfl Ac2)
theorem AU3 (l : List G3) (pre : G3 → Prop) (f : G3 → Bool) (hp : ∀ x ∈ l, pre x) : D3 Tryz.prog 40 [AV.list 2 (l.map G3.cs), AV.fun1 Tryz.prog pre (fun a => AV.agg a.cs) (fun a => AV.bool (f a))] (AV.int (idxFrom f l 0)) := by
 refine C6 Tryz.func40 rfl Tryz.ntmps40 rfl ?_
 refine n3 (t := 0) rfl fun hl => ?_
 try simp only [A4] at hl
 refine R12 ?_
 refine J0 [(0, _), (1, _), (7, _)] _ (fun (i : Nat) => i ≤ l.length ∧ idxFrom f l 0 = idxFrom f (l.drop i) i) (fun (i : Nat) => []) (fun (i : Nat) => [(8, AV.int i)]) (fun (i : Nat) => l.length - i) (0) ?_ (K6 ⟨rfl, rfl, rfl, rfl, trivial⟩) ?_
 ·exact ⟨Nat.zero_le _, rfl⟩
 intro i hinv
 refine R5 ?_
 refine A6 (A0 rfl) ?_ ?_
 ·intro h9
  have k9 := of_decide_eq_true h9; try simp only [A4] at k9
  have hlt : i < l.length := by omega
  obtain ⟨x, hx⟩ := F8 hlt
  refine R13 ?_
  refine A2 rfl (H3 rfl C5 J5 (A0 rfl) (A0 rfl) hx qz3) ?_
  refine R1 ?_
  refine A2 rfl (AW6 rfl (A0 rfl) x (hp x (D9 hx)) (A0 rfl)) ?_
  refine R1 ?_
  refine A6 (A0 rfl) ?_ ?_
  ·intro h16
   refine R6 ?_
   exact H5 rfl (A8 rfl Ac2)
  intro h16
  refine R5 ?_
  refine L0 i (i + 1) ?_ ?_ (K6 ⟨rfl, rfl, rfl, rfl, trivial⟩)
  ·exact ⟨by omega, by rw [hinv.2, drop_some hx, idxFrom, h16]; simp⟩
  omega
 intro h9
 have k9 := of_decide_eq_false h9; try simp only [A4] at k9
 have hge : l.length ≤ i := by omega
 refine R6 ?_
 exact H5 rfl (A8 rfl Ac2)
theorem AN5 (l : List G3) (pre : G3 → Prop) (f : G3 → Bool) (hp : ∀ x ∈ l, pre x) : D3 Tryz.prog 20 [AV.list 2 (l.map G3.cs), AV.fun1 Tryz.prog pre (fun a => AV.agg a.cs) (fun a => AV.bool (f a))] (AV.bool (l.any f)) := by
  refine C6 Tryz.func20 rfl Tryz.ntmps20 rfl ?_
  refine R8 ?_
  refine A2 rfl (B3 rfl Tryz.call40 rfl (AU3 _ _ _ Ab9) (A1 (A0 rfl) (A1 (A0 rfl) A3))) ?_
  refine R4 ?_
  exact H5 rfl (A8 rfl (by exact congrArg AV.bool (AJ6 f l 0 (Int.le_refl 0))))
theorem AU4 (l : List Int) (pre : Int → Prop) (f : Int → Bool) (hp : ∀ x ∈ l, pre x) : D3 Tryz.prog 95 [ints l, AV.fun1 Tryz.prog pre (fun a => AV.int a) (fun a => AV.bool (f a))] (AV.int (idxFrom f l 0)) := by
 refine C6 Tryz.func95 rfl Tryz.ntmps95 rfl ?_
 refine n3 (t := 0) rfl fun hl => ?_
 try simp only [A4] at hl
 refine R12 ?_
 refine J0 [(0, _), (1, _), (7, _)] _ (fun (i : Nat) => i ≤ l.length ∧ idxFrom f l 0 = idxFrom f (l.drop i) i) (fun (i : Nat) => []) (fun (i : Nat) => [(8, AV.int i)]) (fun (i : Nat) => l.length - i) (0) ?_ (K6 ⟨rfl, rfl, rfl, rfl, trivial⟩) ?_
 ·exact ⟨Nat.zero_le _, rfl⟩
 intro i hinv
 refine R5 ?_
 refine A6 (A0 rfl) ?_ ?_
 ·intro h9
  have k9 := of_decide_eq_true h9; try simp only [A4] at k9
  have hlt : i < l.length := by omega
  obtain ⟨x, hx⟩ := F8 hlt
  refine R13 ?_
  refine A2 rfl (H3 rfl B5 D0 (A0 rfl) (A0 rfl) hx qz3) ?_
  refine R1 ?_
  refine A2 rfl (AW6 rfl (A0 rfl) x (hp x (D9 hx)) (A0 rfl)) ?_
  refine R1 ?_
  refine A6 (A0 rfl) ?_ ?_
  ·intro h16
   refine R6 ?_
   exact H5 rfl (A8 rfl Ac2)
  intro h16
  refine R5 ?_
  refine L0 i (i + 1) ?_ ?_ (K6 ⟨rfl, rfl, rfl, rfl, trivial⟩)
  ·exact ⟨by omega, by rw [hinv.2, drop_some hx, idxFrom, h16]; simp⟩
  omega
 intro h9
 have k9 := of_decide_eq_false h9; try simp only [A4] at k9
 have hge : l.length ≤ i := by omega
 refine R6 ?_
 exact H5 rfl (A8 rfl Ac2)
theorem AN6 (l : List Int) (pre : Int → Prop) (f : Int → Bool) (hp : ∀ x ∈ l, pre x) : D3 Tryz.prog 66 [ints l, AV.fun1 Tryz.prog pre (fun a => AV.int a) (fun a => AV.bool (f a))] (AV.bool (l.any f)) := by
  refine C6 Tryz.func66 rfl Tryz.ntmps66 rfl ?_
  refine R8 ?_
  refine A2 rfl (B3 rfl Tryz.call95 rfl (AU4 _ _ _ Ab9) (A1 (A0 rfl) (A1 (A0 rfl) A3))) ?_
  refine R4 ?_
  exact H5 rfl (A8 rfl (by exact congrArg AV.bool (AJ6 f l 0 (Int.le_refl 0))))
theorem S7 (l : List A7) (hl : l.length ≤ 4194304) : F0 Tryz.prog 68 [AV.list 4 (l.map A7.cs)] [] (fun _ : Value => True) (fun v => [.arr v 68 4 (l.map A7.cs)]) (fun v => AV.is v) := by
 refine E1 Tryz.func68 rfl Tryz.ntmps68 rfl ?_
 refine AB1 0 rfl ?_ ?_
 ·intro hnil
  have hn : l = [] := by cases l with | nil => rfl | cons x l => simp at hnil
  subst hn
  refine R2 ?_
  refine T7 68 4 rfl rfl rfl rfl L6 ?_
  intro v2
  refine R5 ?_
  refine A2 rfl (AT1 rfl A9 (A0 rfl)) ?_
  refine R1 ?_
  refine A6 (A0 rfl) ?_ ?_
  ·intro h4
   refine R2 ?_
   refine T7 68 4 rfl rfl rfl rfl L6 ?_
   intro v2
   refine R2 ?_
   exact F1 [0] v2 (trivial) rfl B6 (H4 rfl (A8 rfl W8))
  intro h4
  cases h4
 skip
 refine R2 ?_
 refine T7 68 4 rfl rfl rfl rfl L6 ?_
 intro v2
 refine R5 ?_
 refine A2 rfl (AT2 rfl A9 (A0 rfl)) ?_
 refine R1 ?_
 refine A6 (A0 rfl) ?_ ?_
 ·intro h4
  cases h4
 intro h4
 refine R3 ?_
 refine P4 rfl rfl rfl rfl A9 E2 ?_
 intro v5
 refine R1 ?_
 refine N0 (by' := 40) 0 rfl rfl rfl rfl A9 Tryz.type68 rfl rfl rfl rfl rfl rfl (A0 rfl) (AB5 (A0 rfl) AM7) rfl qz3 ?_
 intro v7_1
 refine R3 ?_
 exact F1 [0] v7_1 (trivial) rfl B6 (H4 rfl (A8 rfl W8))
theorem AI0 (l : List A5) (hl : l.length ≤ 4194304) : F0 Tryz.prog 41 [AV.list 5 (l.map A5.cs)] [] (fun _ : Value => True) (fun v => [.arr v 40 5 (l.map A5.cs)]) (fun v => AV.is v) := by
 refine E1 Tryz.func41 rfl Tryz.ntmps41 rfl ?_
 refine AB1 0 rfl ?_ ?_
 ·intro hnil
  have hn : l = [] := by cases l with | nil => rfl | cons x l => simp at hnil
  subst hn
  refine R2 ?_
  refine T7 40 5 rfl rfl rfl rfl L6 ?_
  intro v2
  refine R5 ?_
  refine A2 rfl (AT1 rfl B0 (A0 rfl)) ?_
  refine R1 ?_
  refine A6 (A0 rfl) ?_ ?_
  ·intro h4
   refine R2 ?_
   refine T7 40 5 rfl rfl rfl rfl L6 ?_
   intro v2
   refine R2 ?_
   exact F1 [0] v2 (trivial) rfl B6 (H4 rfl (A8 rfl W8))
  intro h4
  cases h4
 skip
 refine R2 ?_
 refine T7 40 5 rfl rfl rfl rfl L6 ?_
 intro v2
 refine R5 ?_
 refine A2 rfl (AT2 rfl B0 (A0 rfl)) ?_
 refine R1 ?_
 refine A6 (A0 rfl) ?_ ?_
 ·intro h4
  cases h4
 intro h4
 refine R3 ?_
 refine P4 rfl rfl rfl rfl B0 B4 ?_
 intro v5
 refine R1 ?_
 refine N0 (by' := 56) 0 rfl rfl rfl rfl B0 Tryz.type40 rfl rfl rfl rfl rfl rfl (A0 rfl) (AB5 (A0 rfl) AM7) rfl qz3 ?_
 intro v7_1
 refine R3 ?_
 exact F1 [0] v7_1 (trivial) rfl B6 (H4 rfl (A8 rfl W8))
theorem AC2 (l : List G3) (hl : l.length ≤ 4194304) : F0 Tryz.prog 43 [AV.list 2 (l.map G3.cs)] [] (fun _ : Value => True) (fun v => [.arr v 56 2 (l.map G3.cs)]) (fun v => AV.is v) := by
 refine E1 Tryz.func43 rfl Tryz.ntmps43 rfl ?_
 refine AB1 0 rfl ?_ ?_
 ·intro hnil
  have hn : l = [] := by cases l with | nil => rfl | cons x l => simp at hnil
  subst hn
  refine R2 ?_
  refine T7 56 2 rfl rfl rfl rfl L6 ?_
  intro v2
  refine R5 ?_
  refine A2 rfl (AT1 rfl C5 (A0 rfl)) ?_
  refine R1 ?_
  refine A6 (A0 rfl) ?_ ?_
  ·intro h4
   refine R2 ?_
   refine T7 56 2 rfl rfl rfl rfl L6 ?_
   intro v2
   refine R2 ?_
   exact F1 [0] v2 (trivial) rfl B6 (H4 rfl (A8 rfl W8))
  intro h4
  cases h4
 skip
 refine R2 ?_
 refine T7 56 2 rfl rfl rfl rfl L6 ?_
 intro v2
 refine R5 ?_
 refine A2 rfl (AT2 rfl C5 (A0 rfl)) ?_
 refine R1 ?_
 refine A6 (A0 rfl) ?_ ?_
 ·intro h4
  cases h4
 intro h4
 refine R3 ?_
 refine P4 rfl rfl rfl rfl C5 J5 ?_
 intro v5
 refine R1 ?_
 refine N0 (by' := 16) 0 rfl rfl rfl rfl C5 Tryz.type56 rfl rfl rfl rfl rfl rfl (A0 rfl) (AB5 (A0 rfl) AM7) rfl qz3 ?_
 intro v7_1
 refine R3 ?_
 exact F1 [0] v7_1 (trivial) rfl B6 (H4 rfl (A8 rfl W8))
theorem p8 (l : List Int) (hl : l.length ≤ 4194304) : F0 Tryz.prog 44 [ints l] [] (fun _ : Value => True) (fun v => [.arr v 3 1 (l.map (fun x => [AV.int x]))]) (fun v => AV.is v) := by
 refine E1 Tryz.func44 rfl Tryz.ntmps44 rfl ?_
 refine AB1 0 rfl ?_ ?_
 ·intro hnil
  have hn : l = [] := by cases l with | nil => rfl | cons x l => simp at hnil
  subst hn
  refine R2 ?_
  refine T7 3 1 rfl rfl rfl rfl L6 ?_
  intro v2
  refine R5 ?_
  refine A2 rfl (AT1 rfl B5 (A0 rfl)) ?_
  refine R1 ?_
  refine A6 (A0 rfl) ?_ ?_
  ·intro h4
   refine R2 ?_
   refine T7 3 1 rfl rfl rfl rfl L6 ?_
   intro v2
   refine R2 ?_
   exact F1 [0] v2 (trivial) rfl B6 (H4 rfl (A8 rfl W8))
  intro h4
  cases h4
 skip
 refine R2 ?_
 refine T7 3 1 rfl rfl rfl rfl L6 ?_
 intro v2
 refine R5 ?_
 refine A2 rfl (AT2 rfl B5 (A0 rfl)) ?_
 refine R1 ?_
 refine A6 (A0 rfl) ?_ ?_
 ·intro h4
  cases h4
 intro h4
 refine R3 ?_
 refine P4 rfl rfl rfl rfl B5 D0 ?_
 intro v5
 refine R1 ?_
 refine N0 (by' := 8) 0 rfl rfl rfl rfl B5 Tryz.type3 rfl rfl rfl rfl rfl rfl (A0 rfl) (AB5 (A0 rfl) AM7) rfl qz3 ?_
 intro v7_1
 refine R3 ?_
 exact F1 [0] v7_1 (trivial) rfl B6 (H4 rfl (A8 rfl W8))
theorem j3 (v vv : Value) (l : List A7) (x : A7) (i : Nat) (hi : i ≤ l.length) (hl : l.length ≤ 4194304) : F0 Tryz.prog 104 [AV.is v, AV.int i, AV.is vv] [.arr v 68 4 (l.map A7.cs), .arr vv 68 4 [A7.cs x]] (fun _ : Value => True) (fun v => [.arr v 68 4 ((l.take i ++ x :: l.drop i).map A7.cs)]) (fun v => AV.is v) := by
 have hn : (l.map A7.cs).length = l.length := A4 _
 have h1 : ([A7.cs x] : List (List AV)).length = 1 := rfl
 have e28 : ((l.map A7.cs).length : Int) + (([A7.cs x] : List (List AV)).length : Int) = ((l.length + 1 : Nat) : Int) := by rw [hn, h1]; rfl
 have e49 : (i : Int) + (([A7.cs x] : List (List AV)).length : Int) = ((i + 1 : Nat) : Int) := by rw [h1]; rfl
 have e39 : ((l.length + 1 : Nat) : Int) - (i : Int) = ((l.length + 1 - i : Nat) : Int) := by omega
 refine E1 Tryz.func104 rfl Tryz.ntmps104 rfl ?_
 refine r4 0 rfl ?_ ?_
 ·intro hv hes; subst hv
  have hl0 : l = [] := by cases l with | nil => rfl | cons y l => (simp at hes)
  subst hl0
  have hi0 : i = 0 := by simpa using hi
  subst hi0
  refine r4 1 rfl (fun _ h => by cases h) ?_
  intro gv cv hvv _ _
  subst hvv
  refine R2 ?_
  refine A2 rfl (P1 rfl L6) ?_
  refine R5 ?_
  refine A2 rfl (w_alo 0 rfl A9 E2 (A0 rfl) rfl (A0 rfl) qz3 qz3) ?_
  refine R4 ?_
  refine A2 rfl (u5 rfl A9 (A0 rfl)) ?_
  refine R8 ?_
  refine A6 (A0 rfl) ?_ ?_
  ·intro h16
   have k16 := G2 h16; try simp only [A4] at k16
   rw [h1] at k16; omega
  intro h16
  have k16 := G1 h16; try simp only [A4] at k16
  refine R14 ?_
  refine A6 (A0 rfl) ?_ ?_
  ·intro h22
   have k22 := G2 h22; try simp only [A4] at k22
   refine R4 ?_
   refine AD1 (by' := 40) 0 rfl rfl rfl rfl A9 Tryz.type68 rfl rfl rfl rfl rfl rfl (A0 rfl) (j0 1 rfl (A0 rfl)) M8 rfl qz61 ?_
   intro v25
   refine R3 ?_
   exact F1 [0] v25 (trivial) rfl qz85 (H4 rfl (A8 rfl AP1))
  intro h22
  have k22 := G1 h22; try simp only [A4] at k22
  exact absurd rfl k22
 intro g cap hv hlc hcm; subst hv
 refine r4 1 rfl (fun _ h => by cases h) ?_
 intro gv cv hvv _ _
 subst hvv
 refine R2 ?_
 refine A2 rfl (P1 rfl L6) ?_
 refine R5 ?_
 refine A2 rfl (a6 rfl A9 E2 (A0 rfl) (A0 rfl) qz3 qz3) ?_
 refine R4 ?_
 refine A2 rfl (u5 rfl A9 (A0 rfl)) ?_
 refine R8 ?_
 refine A6 (A0 rfl) ?_ ?_
 ·intro h16
  have k16 := G2 h16; try simp only [A4] at k16
  rw [h1] at k16; omega
 intro h16
 have k16 := G1 h16; try simp only [A4] at k16
 refine R4 ?_
 refine A2 rfl (u5 rfl A9 (A0 rfl)) ?_
 refine R9 ?_
 refine A6 (A0 rfl) ?_ ?_
 ·intro h22
  have k22 := G2 h22; try simp only [A4] at k22
  refine R4 ?_
  refine AD1 (by' := 40) 0 rfl rfl rfl rfl A9 Tryz.type68 rfl rfl rfl rfl rfl rfl (A0 rfl) (j0 1 rfl (A0 rfl)) M8 rfl qz61 ?_
  intro v25
  refine R3 ?_
  exact F1 [0] v25 (trivial) rfl qz85 (H4 rfl (A8 rfl AP1))
 intro h22
 have k22 := G1 h22; try simp only [A4] at k22
 refine R7 ?_
 rw [e28]
 refine R1 ?_
 refine A2 rfl (w_vcap rfl A9 (A0 rfl)) ?_
 refine R2 ?_
 refine A6 (A0 rfl) ?_ ?_
 ·intro h31
  have k31 := of_decide_eq_true h31; try simp only [A4] at k31
  refine R4 ?_
  refine A2 rfl (AY9 rfl A9 E2 (A0 rfl) (A0 rfl) qz6 (by rw [hn] at hlc; omega)) ?_
  refine R3 ?_
  rw [e28]
  refine R2 ?_
  rw [e39, Int.toNat_natCast]
  refine AZ0 (by' := 40) (j := i) (m := l.length + 1 - i) 0 rfl rfl rfl rfl A9 J8 Tryz.type68 rfl rfl rfl rfl rfl rfl (A0 rfl) (A0 rfl) rfl (by rw [hn]; exact hi) qz6 qz6 qz6 qz6 ?_
  intro g2 cap2 hcap2
  refine R6 ?_
  refine A2 rfl (a6 rfl A9 E2 (A0 rfl) (A0 rfl) qz3 qz3) ?_
  refine R1 ?_
  rw [Int.toNat_natCast]
  refine AE1 (k := i) 0 rfl rfl rfl rfl A9 Tryz.type68 rfl (A0 rfl) (j0 2 rfl (A0 rfl)) rfl (by rw [h1]; omega) (by rw [h1]; omega) hcap2 M8 ?_
  refine R2 ?_
  refine H1 8 qz8 qz8 rfl ?_
  refine R4 ?_
  rw [e49]
  refine B8 rfl rfl (a6 rfl A9 E2 (A0 rfl) (A0 rfl) qz3 qz3) ?_
  refine R2 ?_
  refine B8 rfl rfl (a6 rfl A9 E2 (A0 rfl) (A0 rfl) qz3 qz3) ?_
  refine R1 ?_
  simp only [Int.toNat_natCast]
  refine AE1 (k := i + 1) 0 rfl rfl rfl rfl A9 Tryz.type68 rfl (A0 rfl) (Ac8 1 rfl (A0 rfl)) rfl qz73 qz73 hcap2 qz78 ?_
  refine R7 ?_
  exact F1 [0] (slv g2 (i + (l.length + 1 - i)) cap2) (trivial) rfl qz85 (H4 rfl (A8 rfl AP1))
 intro h31
 have k31 := of_decide_eq_false h31; try simp only [A4] at k31
 refine R7 ?_
 rw [e28]
 refine A2 rfl (AY9 rfl A9 E2 (A0 rfl) (A0 rfl) qz3 qz3) ?_
 rw [Int.toNat_natCast]
 refine R10 ?_
 rw [e49]
 refine A2 rfl (a6 rfl A9 E2 (A0 rfl) (A0 rfl) qz3 qz3) ?_
 rw [Int.toNat_natCast]
 refine A2 rfl (AV2 (tb := 4) 1 0 rfl Tryz.func117 qz8 qz8 qz8 qz8 A9 E2 (A0 rfl) (A0 rfl) rfl rfl rfl qz6 rfl) ?_
 refine R2 ?_
 refine A6 (A0 rfl) ?_ ?_
 ·intro h68
  refine R1 ?_
  refine H1 8 qz8 qz8 rfl ?_
  refine R4 ?_
  rw [e49]
  refine B8 rfl rfl (a6 rfl A9 E2 (A0 rfl) (A0 rfl) qz3 qz3) ?_
  refine R2 ?_
  refine B8 rfl rfl (a6 rfl A9 E2 (A0 rfl) (A0 rfl) qz3 qz3) ?_
  refine R1 ?_
  simp only [Int.toNat_natCast]
  refine Ak4 (k := i) (len := (l.map A7.cs).length) 0 rfl rfl rfl rfl A9 Tryz.type68 rfl (by rw [hn]; exact A0 rfl) (by rw [hn]; exact A0 rfl) rfl qz6 qz6 ?_
  intro j77
  refine R5 ?_
  refine A2 rfl (a6 rfl A9 E2 (A0 rfl) (A0 rfl) qz3 qz3) ?_
  refine R1 ?_
  rw [Int.toNat_natCast]
  refine AE1 (k := i) 0 rfl rfl rfl rfl A9 Tryz.type68 rfl (A0 rfl) (j0 1 rfl (A0 rfl)) rfl (by rw [h1, hn]; omega) (by rw [h1]; omega) qz6 M8 ?_
  refine R7 ?_
  exact F1 [0] (slv g ((l.map A7.cs).length + 1) cap) (trivial) rfl qz85 (H4 rfl (A8 rfl AP1))
 intro h68
 cases h68
theorem Ai0 (v vv : Value) (l : List Int) (x : Int) (i : Nat) (hi : i ≤ l.length) (hl : l.length ≤ 4194304) : F0 Tryz.prog 102 [AV.is v, AV.int i, AV.is vv] [.arr v 3 1 (l.map (fun x => [AV.int x])), .arr vv 3 1 [[AV.int x]]] (fun _ : Value => True) (fun v => [.arr v 3 1 ((l.take i ++ x :: l.drop i).map (fun x => [AV.int x]))]) (fun v => AV.is v) := by
 have hn : (l.map (fun x => [AV.int x])).length = l.length := A4 _
 have h1 : ([[AV.int x]] : List (List AV)).length = 1 := rfl
 have e28 : ((l.map (fun x => [AV.int x])).length : Int) + (([[AV.int x]] : List (List AV)).length : Int) = ((l.length + 1 : Nat) : Int) := by rw [hn, h1]; rfl
 have e49 : (i : Int) + (([[AV.int x]] : List (List AV)).length : Int) = ((i + 1 : Nat) : Int) := by rw [h1]; rfl
 have e39 : ((l.length + 1 : Nat) : Int) - (i : Int) = ((l.length + 1 - i : Nat) : Int) := by omega
 refine E1 Tryz.func102 rfl Tryz.ntmps102 rfl ?_
 refine r4 0 rfl ?_ ?_
 ·intro hv hes; subst hv
  have hl0 : l = [] := by cases l with | nil => rfl | cons y l => (simp at hes)
  subst hl0
  have hi0 : i = 0 := by simpa using hi
  subst hi0
  refine r4 1 rfl (fun _ h => by cases h) ?_
  intro gv cv hvv _ _
  subst hvv
  refine R2 ?_
  refine A2 rfl (P1 rfl L6) ?_
  refine R5 ?_
  refine A2 rfl (w_alo 0 rfl B5 D0 (A0 rfl) rfl (A0 rfl) qz3 qz3) ?_
  refine R4 ?_
  refine A2 rfl (u5 rfl B5 (A0 rfl)) ?_
  refine R8 ?_
  refine A6 (A0 rfl) ?_ ?_
  ·intro h16
   have k16 := G2 h16; try simp only [A4] at k16
   rw [h1] at k16; omega
  intro h16
  have k16 := G1 h16; try simp only [A4] at k16
  refine R14 ?_
  refine A6 (A0 rfl) ?_ ?_
  ·intro h22
   have k22 := G2 h22; try simp only [A4] at k22
   refine R4 ?_
   refine AD1 (by' := 8) 0 rfl rfl rfl rfl B5 Tryz.type3 rfl rfl rfl rfl rfl rfl (A0 rfl) (j0 1 rfl (A0 rfl)) M8 rfl qz61 ?_
   intro v25
   refine R3 ?_
   exact F1 [0] v25 (trivial) rfl qz86 (H4 rfl (A8 rfl AP1))
  intro h22
  have k22 := G1 h22; try simp only [A4] at k22
  exact absurd rfl k22
 intro g cap hv hlc hcm; subst hv
 refine r4 1 rfl (fun _ h => by cases h) ?_
 intro gv cv hvv _ _
 subst hvv
 refine R2 ?_
 refine A2 rfl (P1 rfl L6) ?_
 refine R5 ?_
 refine A2 rfl (a6 rfl B5 D0 (A0 rfl) (A0 rfl) qz3 qz3) ?_
 refine R4 ?_
 refine A2 rfl (u5 rfl B5 (A0 rfl)) ?_
 refine R8 ?_
 refine A6 (A0 rfl) ?_ ?_
 ·intro h16
  have k16 := G2 h16; try simp only [A4] at k16
  rw [h1] at k16; omega
 intro h16
 have k16 := G1 h16; try simp only [A4] at k16
 refine R4 ?_
 refine A2 rfl (u5 rfl B5 (A0 rfl)) ?_
 refine R9 ?_
 refine A6 (A0 rfl) ?_ ?_
 ·intro h22
  have k22 := G2 h22; try simp only [A4] at k22
  refine R4 ?_
  refine AD1 (by' := 8) 0 rfl rfl rfl rfl B5 Tryz.type3 rfl rfl rfl rfl rfl rfl (A0 rfl) (j0 1 rfl (A0 rfl)) M8 rfl qz61 ?_
  intro v25
  refine R3 ?_
  exact F1 [0] v25 (trivial) rfl qz86 (H4 rfl (A8 rfl AP1))
 intro h22
 have k22 := G1 h22; try simp only [A4] at k22
 refine R7 ?_
 rw [e28]
 refine R1 ?_
 refine A2 rfl (w_vcap rfl B5 (A0 rfl)) ?_
 refine R2 ?_
 refine A6 (A0 rfl) ?_ ?_
 ·intro h31
  have k31 := of_decide_eq_true h31; try simp only [A4] at k31
  refine R4 ?_
  refine A2 rfl (AY9 rfl B5 D0 (A0 rfl) (A0 rfl) qz6 (by rw [hn] at hlc; omega)) ?_
  refine R3 ?_
  rw [e28]
  refine R2 ?_
  rw [e39, Int.toNat_natCast]
  refine AZ0 (by' := 8) (j := i) (m := l.length + 1 - i) 0 rfl rfl rfl rfl B5 J8 Tryz.type3 rfl rfl rfl rfl rfl rfl (A0 rfl) (A0 rfl) rfl (by rw [hn]; exact hi) qz6 qz6 qz6 qz6 ?_
  intro g2 cap2 hcap2
  refine R6 ?_
  refine A2 rfl (a6 rfl B5 D0 (A0 rfl) (A0 rfl) qz3 qz3) ?_
  refine R1 ?_
  rw [Int.toNat_natCast]
  refine AE1 (k := i) 0 rfl rfl rfl rfl B5 Tryz.type3 rfl (A0 rfl) (j0 2 rfl (A0 rfl)) rfl (by rw [h1]; omega) (by rw [h1]; omega) hcap2 M8 ?_
  refine R2 ?_
  refine H1 8 qz8 qz8 rfl ?_
  refine R4 ?_
  rw [e49]
  refine B8 rfl rfl (a6 rfl B5 D0 (A0 rfl) (A0 rfl) qz3 qz3) ?_
  refine R2 ?_
  refine B8 rfl rfl (a6 rfl B5 D0 (A0 rfl) (A0 rfl) qz3 qz3) ?_
  refine R1 ?_
  simp only [Int.toNat_natCast]
  refine AE1 (k := i + 1) 0 rfl rfl rfl rfl B5 Tryz.type3 rfl (A0 rfl) (Ac8 1 rfl (A0 rfl)) rfl qz73 qz73 hcap2 qz78 ?_
  refine R7 ?_
  exact F1 [0] (slv g2 (i + (l.length + 1 - i)) cap2) (trivial) rfl qz86 (H4 rfl (A8 rfl AP1))
 intro h31
 have k31 := of_decide_eq_false h31; try simp only [A4] at k31
 refine R7 ?_
 rw [e28]
 refine A2 rfl (AY9 rfl B5 D0 (A0 rfl) (A0 rfl) qz3 qz3) ?_
 rw [Int.toNat_natCast]
 refine R10 ?_
 rw [e49]
 refine A2 rfl (a6 rfl B5 D0 (A0 rfl) (A0 rfl) qz3 qz3) ?_
 rw [Int.toNat_natCast]
 refine A2 rfl (AV2 (tb := 4) 1 0 rfl Tryz.func115 qz8 qz8 qz8 qz8 B5 D0 (A0 rfl) (A0 rfl) rfl rfl rfl qz6 rfl) ?_
 refine R2 ?_
 refine A6 (A0 rfl) ?_ ?_
 ·intro h68
  refine R1 ?_
  refine H1 8 qz8 qz8 rfl ?_
  refine R4 ?_
  rw [e49]
  refine B8 rfl rfl (a6 rfl B5 D0 (A0 rfl) (A0 rfl) qz3 qz3) ?_
  refine R2 ?_
  refine B8 rfl rfl (a6 rfl B5 D0 (A0 rfl) (A0 rfl) qz3 qz3) ?_
  refine R1 ?_
  simp only [Int.toNat_natCast]
  refine Ak4 (k := i) (len := (l.map (fun x => [AV.int x])).length) 0 rfl rfl rfl rfl B5 Tryz.type3 rfl (by rw [hn]; exact A0 rfl) (by rw [hn]; exact A0 rfl) rfl qz6 qz6 ?_
  intro j77
  refine R5 ?_
  refine A2 rfl (a6 rfl B5 D0 (A0 rfl) (A0 rfl) qz3 qz3) ?_
  refine R1 ?_
  rw [Int.toNat_natCast]
  refine AE1 (k := i) 0 rfl rfl rfl rfl B5 Tryz.type3 rfl (A0 rfl) (j0 1 rfl (A0 rfl)) rfl (by rw [h1, hn]; omega) (by rw [h1]; omega) qz6 M8 ?_
  refine R7 ?_
  exact F1 [0] (slv g ((l.map (fun x => [AV.int x])).length + 1) cap) (trivial) rfl qz86 (H4 rfl (A8 rfl AP1))
 intro h68
 cases h68
theorem AF7 (v : Value) (l : List A7) (i : Nat) (hi : i < l.length) (hl : l.length ≤ 4194304) : F0 Tryz.prog 79 [AV.is v, AV.int i, AV.int ((i : Int) + 1)] [.arr v 68 4 (l.map A7.cs)] (fun _ : Value => True) (fun v => [.arr v 68 4 ((l.eraseIdx i).map A7.cs)]) (fun v => AV.is v) := by
 have hn : (l.map A7.cs).length = l.length := A4 _
 refine E1 Tryz.func79 rfl Tryz.ntmps79 rfl ?_
 refine r4 0 rfl ?_ ?_
 ·intro hv hes; subst hv
  have h0 : l.length = 0 := (by rw [← hn, hes]; rfl); omega
 intro g cap hv hlc hcm; subst hv
 refine R2 ?_
 refine A2 rfl (P1 rfl L6) ?_
 refine R7 ?_
 refine A2 rfl (u5 rfl A9 (A0 rfl)) ?_
 refine A2 rfl (w_v3 rfl A9 E2 (A0 rfl) (A0 rfl) (A0 rfl) (A0 rfl) qz6 qz6 qz6 qz6) ?_
 refine R8 ?_
 refine A6 (A0 rfl) ?_ ?_
 ·intro h16
  have k16 := G2 h16; try simp only [A4] at k16
  omega
 intro h16
 have k16 := G1 h16; try simp only [A4] at k16
 refine R4 ?_
 refine A2 rfl (u5 rfl A9 (A0 rfl)) ?_
 refine R3 ?_
 refine H1 6 qz8 qz8 rfl ?_
 refine R2 ?_
 refine B8 rfl rfl (AY9 rfl A9 E2 (A0 rfl) (A0 rfl) qz6 qz6) ?_
 refine R2 ?_
 refine B8 rfl rfl (a6 rfl A9 E2 (A0 rfl) (A0 rfl) qz6 qz6) ?_
 refine R1 ?_
 rw [show ((i : Int) + 1).toNat = i + 1 by omega, Int.toNat_natCast]
 refine Az0 (k := i) (j := i + 1) 0 rfl rfl rfl rfl A9 Tryz.type68 rfl (A0 rfl) (A0 rfl) rfl qz6 qz6 ?_
 refine R6 ?_
 refine A2 rfl (u5 rfl A9 (A0 rfl)) ?_
 refine R1 ?_
 refine A2 rfl (w_vlohi rfl A9 E2 (A0 rfl) (A0 rfl) (A0 rfl) qz6 qz6 qz6) ?_
 simp only [Int.toNat_natCast]
 refine Az1 0 rfl rfl rfl A9 Tryz.zeroValue68 rfl rfl rfl (A0 rfl) rfl qz6 qz6 qz6 ?_
 refine R7 ?_
 exact F1 [0] (slv g (i + ((l.map A7.cs).length - (i + 1))) cap) (trivial) rfl (by exact congrArg (fun z => [Own.arr _ 68 4 z]) (by simp [List.eraseIdx_eq_take_drop_succ, List.map_take, List.map_drop])) (H4 rfl (A8 rfl W8))
end Go.Proofs.YtkibefcceekmnaaGreatDoor
namespace Go.M
end Go.M
namespace Go.Proofs.YtkibefcceekmnaaGreatDoor
open Go Go.AV Go.M
attribute [local irreducible] OpW OpA OpS AWP D3 P2 RetOk M3 Le Ev I4
end Go.Proofs.YtkibefcceekmnaaGreatDoor
namespace Go.M
open Go.AV
def AG7.ocs (c : AG7) (x : Value × Value) : List AV := [AV.int c.Kind, AV.int c.Txn, AV.int c.Time, AV.int c.Lead, AV.is x.1, AV.is x.2, AV.bool c.Yes]
def X7.ocs (c : X7) (x : Value × Value) : List AV := [AV.int c.Ver, AV.is x.1, AV.is x.2]
def TMove.ocs (c : TMove) (x : Value × Value) : List AV := [AV.str c.Low, AV.str c.High, AV.int c.Phase, AV.is x.1, AV.is x.2, AV.str c.Last, AV.bool c.Over]
end Go.M
namespace Go.Proofs.YtkibefcceekmnaaGreatDoor
open Go Go.AV Go.M
attribute [local irreducible] OpW OpA OpS AWP D3 P2 RetOk M3 Le Ev I4
end Go.Proofs.YtkibefcceekmnaaGreatDoor
namespace Go.Proofs.YtkibefcceekmnaaGreatDoor
open Go Go.AV Go.M
attribute [local irreducible] OpW OpA OpS AWP D3 P2 F0 OpE RetOk K2 M3 Le Ev I4
def X7.ow (c : X7) (x : Value × Value) : List Own := [.arr x.1 9 1 (c.Cuts.map (fun x => [AV.str x])), .arr x.2 3 1 (c.Groups.map (fun x => [AV.int x]))]
end Go.Proofs.YtkibefcceekmnaaGreatDoor
namespace Go.Proofs.YtkibefcceekmnaaGreatDoor
open Go Go.AV Go.M
attribute [local irreducible] OpW OpA OpS AWP D3 P2 F0 OpE RetOk K2 M3 Le Ev I4 Q8
theorem Aw0 (l : List Int) (a b : Int) : D3 Tryz.prog 63 [ints l, AV.int a, AV.int b] (AV.bool (l.all fun g => within g a b)) := by
 refine C6 Tryz.func63 rfl Tryz.ntmps63 rfl ?_
 refine n3 (t := 0) rfl fun hl => ?_
 try simp only [A4] at hl
 refine R12 ?_
 refine J0 [(1, _), (2, _), (9, _), (10, _)] _ (fun (i : Nat) => i ≤ l.length ∧ (l.all fun g => within g a b) = ((l.drop i).all fun g => within g a b)) (fun (i : Nat) => []) (fun (i : Nat) => [(11, AV.int i)]) (fun (i : Nat) => l.length - i) (0) ?_ (K6 ⟨rfl, rfl, rfl, rfl, rfl, trivial⟩) ?_
 ·exact ⟨Nat.zero_le _, rfl⟩
 intro i hinv
 refine R5 ?_
 refine A6 (A0 rfl) ?_ ?_
 ·intro h12
  have k12 := of_decide_eq_true h12; try simp only [A4] at k12
  have hlt : i < l.length := by omega
  obtain ⟨x, hx⟩ := F8 hlt
  refine R5 ?_
  refine A2 rfl (H3 rfl B5 D0 (A0 rfl) (A0 rfl) hx qz3) ?_
  refine R8 ?_
  refine A2 rfl (B3 rfl Tryz.call35 rfl (O0 _ _ _) (A1 (A0 rfl) (A1 (A0 rfl) (A1 (A0 rfl) A3)))) ?_
  refine R2 ?_
  refine A6 (A0 rfl) ?_ ?_
  ·intro h19
   refine R5 ?_
   exact H5 rfl (A8 rfl qz62)
  intro h19
  refine R5 ?_
  refine L0 i (i + 1) ?_ ?_ (K6 ⟨rfl, rfl, rfl, rfl, rfl, trivial⟩)
  ·exact ⟨by omega, by rw [hinv.2, AN2 hx (by simpa using h19)]⟩
  omega
 intro h12
 have k12 := of_decide_eq_false h12; try simp only [A4] at k12
 have hge : l.length ≤ i := by omega
 refine R6 ?_
 exact H5 rfl (A8 rfl qz62)
theorem AQ8 (l : List Int) (hl : l.length ≤ 4194304) : F0 Tryz.prog 52 [ints l] [] (fun _ : Value => True) (fun v => [.arr v 3 1 (l.map fun x => [AV.int x])]) (fun v => AV.is v) := by
  refine E1 Tryz.func52 rfl Tryz.ntmps52 rfl ?_
  refine R2 ?_
  refine A2 rfl (P1 rfl L6) ?_
  refine R3 ?_
  refine P4 rfl rfl rfl rfl B5 D0 ?_
  intro v3
  refine R1 ?_
  refine N0 (by' := 8) 0 rfl rfl rfl rfl B5 Tryz.type3 rfl rfl rfl rfl rfl rfl (A0 rfl) (A0 rfl) rfl qz3 ?_
  intro v5_1
  refine R3 ?_
  exact F1 [0] v5_1 (trivial) rfl B6 (H4 rfl (A8 rfl W8))
end Go.Proofs.YtkibefcceekmnaaGreatDoor
namespace Go.M
open Go.AV
theorem N8 {n : D5} (h : n.size ≤ 1048576) : n.Homes.length ≤ 1048576 ∧ n.Under.length ≤ 1048576 ∧ ∀ l ∈ n.Under, l.Body.length ≤ 1048576 := by
  have h1 : n.Homes.length + sizeL A7.size n.Under ≤ 1048576 := h
  have h2 := Az5 (f := A7.size) (l := n.Under)
  exact ⟨by omega, by omega, fun l hl => by have := Az4 (f := A7.size) hl; have h4 : l.size = l.Body.length := rfl; omega⟩
theorem As7 {n : D5} (h : ((!within n.Now 0 100000 || !p7 n.Homes n.Far) || decide ((60 : Int) < (n.Under.length : Int))) = true) : goodNet n = false := by
  unfold goodNet goodUnder
  simp only [Bool.or_eq_true, Bool.not_eq_true', decide_eq_true_eq] at h
  rcases h with (h | h) | h
  · rw [h]; rfl
  · rw [h]; simp
  · rw [decide_eq_false qz6]; simp
theorem As8 {n : D5} (h : ((!within n.Now 0 100000 || !p7 n.Homes n.Far) || decide ((60 : Int) < (n.Under.length : Int))) = false) : goodNet n = (n.Under.all (isLetN n) && adj J7 n.Under) ∧ n.Under.length ≤ 60 := by
  simp only [Bool.or_eq_false_iff, Bool.not_eq_false', decide_eq_false_iff_not] at h
  refine ⟨?_, by omega⟩
  unfold goodNet goodUnder
  rw [h.1.1, h.1.2, decide_eq_true qz6]; rfl
theorem Al7 {n : D5} {i : Nat} {x y : A7} (hx : n.Under[i]? = some x) (hy : n.Under[i - 1]? = some y) (hg : isLetN n x = true ∧ (0 < i → J7 y x = true)) : ((n.Under.drop i).all (isLetN n) && adj J7 (n.Under.drop (i - 1))) = ((n.Under.drop (i + 1)).all (isLetN n) && adj J7 (n.Under.drop (i + 1 - 1))) := by
  rw [AN2 hx hg.1, Al0 hx hy hg.2]
theorem Al8 {n : D5} {i : Nat} {x y : A7} (hx : n.Under[i]? = some x) (hy : n.Under[i - 1]? = some y) (hg : isLetN n x = true → 0 < i ∧ J7 y x = false) : ((n.Under.drop i).all (isLetN n) && adj J7 (n.Under.drop (i - 1))) = false := by
  cases h : isLetN n x with
  | false => rw [AN3 hx h]; rfl
  | true => rw [Al1 hx hy (hg h).1 (hg h).2, Bool.and_false]
theorem As9 {n : D5} {i : Nat} (h : n.Under.length ≤ i) : ((n.Under.drop i).all (isLetN n) && adj J7 (n.Under.drop (i - 1))) = true := by
  rw [AT3 h, As5 h]; rfl
theorem let_due {n : D5} {x : A7} {d : Int} (hl : isLetN n x = true) (hd : 0 ≤ d) (h : ((((!H2 n x.From || !H2 n x.To) || (x.From == x.To)) || !within x.Due d 100200) || !within (x.Body.length : Int) 1 40) = true) : 0 ≤ x.Due ∧ x.Due < d := by
  unfold isLetN within at hl
  simp only [Bool.and_eq_true, decide_eq_true_eq, bne_iff_ne] at hl
  obtain ⟨⟨⟨⟨a, b⟩, c⟩, d1, d2⟩, e1, e2⟩ := hl
  rw [a, b, beq_eq_false_iff_ne.2 c] at h
  unfold within at h
  rw [decide_eq_true e1, decide_eq_true e2, decide_eq_true d2] at h
  simp only [Bool.not_true, Bool.or_false, Bool.false_or, Bool.and_true, Bool.not_eq_true', decide_eq_false_iff_not] at h
  omega
theorem let_due2 {n : D5} {x : A7} {d : Int} (hd : 0 ≤ d) (h : ((((!H2 n x.From || !H2 n x.To) || (x.From == x.To)) || !within x.Due d 100200) || !within (x.Body.length : Int) 1 40) = false) : isLetN n x = true ∧ d ≤ x.Due := by
  simp only [Bool.or_eq_false_iff, Bool.not_eq_false', beq_eq_false_iff_ne] at h
  obtain ⟨⟨⟨⟨a, b⟩, c⟩, e⟩, f⟩ := h
  unfold within at e
  rw [Bool.and_eq_true, decide_eq_true_eq, decide_eq_true_eq] at e
  refine ⟨?_, e.1⟩
  unfold isLetN
  rw [a, b, f, bne_iff_ne.2 c]
  unfold within
  rw [decide_eq_true (show 0 ≤ x.Due by omega), decide_eq_true e.2]; rfl
end Go.M
namespace Go.Proofs.YtkibefcceekmnaaGreatDoor
open Go Go.AV Go.M
attribute [local irreducible] OpW OpA OpS AWP D3 P2 F0 OpE RetOk K2 M3 Le Ev I4 Q8 Int.tmod Int.tdiv IntKind.wrap
theorem Ad3 (h : Int) : D3 Tryz.prog 67 [AV.int h] (AV.bool (!within h 0 2)) := by
  refine C6 Tryz.func67 rfl Tryz.ntmps67 rfl ?_
  refine R7 ?_
  refine A2 rfl (B3 rfl Tryz.call22 rfl (O7 _ _ _) (A1 (A0 rfl) (A1 D4 (A1 D4 A3)))) ?_
  refine R4 ?_
  exact H5 rfl (A8 rfl W8)
theorem Ai1 (h : List Int) (far : Int) : D3 Tryz.prog 37 [ints h, AV.int far] (AV.bool (p7 h far)) := by
  refine C6 Tryz.func37 rfl Tryz.ntmps37 rfl ?_
  refine R8 ?_
  refine A2 rfl (B3 rfl Tryz.call22 rfl (O7 _ _ _) (A1 (A0 rfl) (A1 D4 (A1 D4 A3)))) ?_
  refine R2 ?_
  refine U5 rfl (fun hc => B3 rfl Tryz.call66 rfl (AN6 _ _ _ Ab9) (A1 (B9 rfl hc) (A1 (ev_fun1 Tryz.call67 (fun h (_ : True) => Ad3 h)) A3))) ?_
  refine R4 ?_
  refine U5 rfl (fun hc => B3 rfl Tryz.call22 rfl (O7 _ _ _) (A1 (B9 rfl hc) (A1 D4 (A1 D4 A3)))) ?_
  refine R4 ?_
  exact H5 rfl (A8 rfl (by first | rfl | exact congrArg AV.bool (by unfold p7; simp [List.all_eq_not_any_not])))
theorem j8 (n : D5) (v : Int) (hs : n.size ≤ 1048576) : D3 Tryz.prog 23 [AV.agg n.cs, AV.int v] (AV.bool (H2 n v)) := by
  obtain ⟨h1, _, _⟩ := N8 hs
  refine C6 Tryz.func23 rfl Tryz.ntmps23 rfl ?_
  refine R3 ?_
  intro b2
  refine R8 ?_
  refine A2 rfl (AE6 rfl (A0 rfl) D4 AE5) ?_
  refine A2 rfl (B3 rfl Tryz.call22 rfl (O7 _ _ _) (A1 (A0 rfl) (A1 D4 (A1 (A0 rfl) A3)))) ?_
  refine R3 ?_
  exact H5 rfl (A8 rfl (by first | rfl | exact congrArg AV.bool (by unfold H2; rw [A4])))
theorem n7 (n : D5) (v : Int) (hs : n.size ≤ 1048576) : D3 Tryz.prog 64 [AV.agg n.cs, AV.int v] (AV.bool (H2 n v)) := by
  obtain ⟨h1, _, _⟩ := N8 hs
  refine C6 Tryz.func64 rfl Tryz.ntmps64 rfl ?_
  refine R3 ?_
  intro b2
  refine R8 ?_
  refine A2 rfl (AE6 rfl (A0 rfl) D4 AE5) ?_
  refine A2 rfl (B3 rfl Tryz.call35 rfl (O0 _ _ _) (A1 (A0 rfl) (A1 D4 (A1 (A0 rfl) A3)))) ?_
  refine R3 ?_
  exact H5 rfl (A8 rfl (by first | rfl | exact congrArg AV.bool (by unfold H2; rw [A4])))
theorem AO6 (n : D5) (l : A7) (hs : n.size ≤ 1048576) : D3 Tryz.prog 38 [AV.agg n.cs, AV.agg l.cs] (AV.bool (isLetN n l)) := by
  refine C6 Tryz.func38 rfl Tryz.ntmps38 rfl ?_
  refine R3 ?_
  intro b2
  refine R1 ?_
  intro b3
  refine R7 ?_
  refine A2 rfl (B3 rfl Tryz.call23 rfl (j8 _ _ W1) (A1 (A0 rfl) (A1 (A0 rfl) A3))) ?_
  refine R4 ?_
  refine U5 rfl (fun hc => B3 rfl Tryz.call23 rfl (j8 _ _ W1) (A1 (B9 rfl hc) (A1 (B9 rfl hc) A3))) ?_
  refine R11 ?_
  refine U5 rfl (fun hc => B3 rfl Tryz.call22 rfl (O7 _ _ _) (A1 (B9 rfl hc) (A1 D4 (A1 D4 A3)))) ?_
  refine R5 ?_
  refine U5 rfl (fun hc => B3 rfl Tryz.call22 rfl (O7 _ _ _) (A1 (B9 rfl hc) (A1 D4 (A1 D4 A3)))) ?_
  refine R4 ?_
  exact H5 rfl (A8 rfl B6)
theorem Al9 (t : Int) : D3 Tryz.prog 36 [AV.int t] (AV.bool (within t 0 100000)) := by
  refine C6 Tryz.func36 rfl Tryz.ntmps36 rfl ?_
  refine R7 ?_
  refine A2 rfl (B3 rfl Tryz.call22 rfl (O7 _ _ _) (A1 (A0 rfl) (A1 D4 (A1 D4 A3)))) ?_
  refine R3 ?_
  exact H5 rfl (A8 rfl W8)
theorem v6 (n : D5) (hs : n.size ≤ 1048576) : D3 Tryz.prog 17 [AV.agg n.cs] (AV.bool (goodNet n)) := by
 obtain ⟨h1, h2, h3⟩ := N8 hs
 refine C6 Tryz.func17 rfl Tryz.ntmps17 rfl ?_
 refine R3 ?_
 intro b1
 refine R7 ?_
 refine A2 rfl (B3 rfl Tryz.call36 rfl (Al9 n.Now) (A1 (A0 rfl) A3)) ?_
 refine R6 ?_
 refine J6 rfl (fun hc => B3 rfl Tryz.call37 rfl (Ai1 _ _) (A1 (B9 rfl hc) (A1 (B9 rfl hc) A3))) ?_
 refine R9 ?_
 refine A6 (A0 rfl) ?_ ?_
 ·intro h22
  rw [A4] at h22
  rw [As7 h22]
  refine R5 ?_
  exact H5 rfl (A8 rfl B6)
 intro h22
 rw [A4] at h22
 obtain ⟨hgo, h60⟩ := As8 h22
 rw [hgo]
 refine R10 ?_
 refine J0 [(1, _), (24, _), (25, _)] _ (fun (i : Nat) => i ≤ n.Under.length ∧ (n.Under.all (isLetN n) && adj J7 n.Under) = ((n.Under.drop i).all (isLetN n) && adj J7 (n.Under.drop (i - 1)))) (fun (i : Nat) => []) (fun (i : Nat) => [(26, AV.int i)]) (fun (i : Nat) => n.Under.length - i) (0) ?_ (K6 ⟨rfl, rfl, rfl, rfl, trivial⟩) ?_
 ·exact ⟨Nat.zero_le _, rfl⟩
 intro i hinv
 refine R5 ?_
 refine A6 (A0 rfl) ?_ ?_
 ·intro h27
  have k27 := of_decide_eq_true h27; try simp only [A4] at k27
  have hlt : i < n.Under.length := by omega
  obtain ⟨x, hx⟩ := F8 hlt
  obtain ⟨y, hy⟩ := F8 (show i - 1 < n.Under.length by omega)
  refine R6 ?_
  refine A2 rfl (H3 rfl A9 E2 (A0 rfl) (A0 rfl) hx qz3) ?_
  refine R2 ?_
  intro b4
  refine R7 ?_
  refine B8 rfl rfl (B3 rfl Tryz.call38 rfl (AO6 _ _ W1) (A1 (A0 rfl) (A1 (A0 rfl) A3))) ?_
  refine R11 ?_
  refine N9 rfl (r3 rfl rfl rfl) (fun hc => H3 rfl A9 E2 (B9 rfl hc) (B9 rfl hc) hy AJ3) ?_
  refine R6 ?_
  refine A6 (A0 rfl) ?_ ?_
  ·intro h50
   have hg : isLetN n x = true → 0 < i ∧ J7 y x = false := (fun hl => by (rw [hl] at h50; simp only [Bool.not_true, Bool.false_or, Bool.and_eq_true, decide_eq_true_eq] at h50; exact ⟨by omega, by (unfold J7; exact decide_eq_false qz6)⟩))
   rw [hinv.2, Al8 hx hy hg]
   refine R5 ?_
   exact H5 rfl (A8 rfl B6)
  intro h50
  have hg : isLetN n x = true ∧ (0 < i → J7 y x = true) := (by (simp only [Bool.or_eq_false_iff, Bool.not_eq_false', Bool.and_eq_false_iff, decide_eq_false_iff_not] at h50; exact ⟨h50.1, fun h9 => by (unfold J7; exact decide_eq_true qz6)⟩))
  refine R5 ?_
  refine L0 i (i + 1) ?_ ?_ (AS5 1 ⟨rfl, rfl, rfl, rfl, trivial⟩)
  ·exact ⟨by omega, hinv.2.trans (Al7 hx hy hg)⟩
  omega
 intro h27
 have k27 := of_decide_eq_false h27; try simp only [A4] at k27
 rw [hinv.2, As9 qz6]
 refine R6 ?_
 exact H5 rfl (A8 rfl B6)
theorem S5 (n : D5) (hs : n.size ≤ 1048576) : D3 Tryz.prog 33 [AV.agg n.cs] (AV.bool (goodNet n)) := by
 obtain ⟨h1, h2, h3⟩ := N8 hs
 refine C6 Tryz.func33 rfl Tryz.ntmps33 rfl ?_
 refine R3 ?_
 intro b1
 refine R7 ?_
 refine A2 rfl (B3 rfl Tryz.call35 rfl (O0 _ _ _) (A1 (A0 rfl) (A1 D4 (A1 D4 A3)))) ?_
 refine R5 ?_
 refine J6 rfl (fun hc => B3 rfl Tryz.call35 rfl (O0 _ _ _) (A1 (B9 rfl hc) (A1 D4 (A1 D4 A3)))) ?_
 refine R5 ?_
 refine J6 rfl (fun hc => B3 rfl Tryz.call63 rfl (Aw0 _ _ _) (A1 (B9 rfl hc) (A1 D4 (A1 D4 A3)))) ?_
 refine R5 ?_
 refine J6 rfl (fun hc => B3 rfl Tryz.call35 rfl (O0 _ _ _) (A1 (B9 rfl hc) (A1 D4 (A1 D4 A3)))) ?_
 refine R9 ?_
 refine A6 (A0 rfl) ?_ ?_
 ·intro h34
  rw [As7 (by rw [← h34]; simp only [p7, A4, Bool.not_and, Bool.or_assoc])]
  refine R5 ?_
  exact H5 rfl (A8 rfl B6)
 intro h34
 obtain ⟨hgo, h60⟩ := As8 (n := n) (by rw [← h34]; simp only [p7, A4, Bool.not_and, Bool.or_assoc])
 rw [hgo]
 refine R11 ?_
 refine S3 [(1, _)] _ (fun (i : Nat) (d : Int) => i ≤ n.Under.length ∧ (0 ≤ d ∧ ∀ y, n.Under[i - 1]? = some y → d = if i = 0 then 0 else y.Due) ∧ (n.Under.all (isLetN n) && adj J7 n.Under) = ((n.Under.drop i).all (isLetN n) && adj J7 (n.Under.drop (i - 1)))) (fun (i : Nat) (d : Int) => []) (fun (i : Nat) (d : Int) => [(3, AV.int d), (4, AV.int i)]) (fun (i : Nat) (d : Int) => n.Under.length - i) (0) (0) ?_ (K6 ⟨rfl, rfl, rfl, trivial⟩) ?_
 ·exact ⟨Nat.zero_le _, ⟨Int.le_refl _, fun y hy => rfl⟩, rfl⟩
 intro i d hinv
 refine R9 ?_
 refine A6 (A0 rfl) ?_ ?_
 ·intro h39
  have k39 := of_decide_eq_true h39; try simp only [A4] at k39
  have hlt : i < n.Under.length := by (simpa using h39)
  obtain ⟨x, hx⟩ := F8 hlt
  obtain ⟨y, hy⟩ := F8 (show i - 1 < n.Under.length by omega)
  have hdd := hinv.2.1.2 y hy
  refine R8 ?_
  refine A2 rfl (H3 rfl A9 E2 (A0 rfl) (A0 rfl) hx qz3) ?_
  refine R2 ?_
  intro b5
  refine R8 ?_
  refine A2 rfl (B3 rfl Tryz.call64 rfl (n7 _ _ W1) (A1 (A0 rfl) (A1 (A0 rfl) A3))) ?_
  refine R5 ?_
  refine J6 rfl (fun hc => B3 rfl Tryz.call64 rfl (n7 _ _ W1) (A1 (B9 rfl hc) (A1 (B9 rfl hc) A3))) ?_
  refine R13 ?_
  refine J6 rfl (fun hc => B3 rfl Tryz.call35 rfl (O0 _ _ _) (A1 (B9 rfl hc) (A1 (B9 rfl hc) (A1 D4 A3)))) ?_
  refine R6 ?_
  refine J6 rfl (fun hc => B3 rfl Tryz.call35 rfl (O0 _ _ _) (A1 (B9 rfl hc) (A1 D4 (A1 D4 A3)))) ?_
  refine R3 ?_
  refine A6 (A0 rfl) ?_ ?_
  ·intro h79
   have hg : isLetN n x = true → 0 < i ∧ J7 y x = false := (fun hl => by (have h9 := let_due hl hinv.2.1.1 h79; refine ⟨by (by_cases h0 : i = 0; (rw [if_pos h0] at hdd; omega); omega), ?_⟩; by_cases h0 : i = 0; (rw [if_pos h0] at hdd; omega); (rw [if_neg h0] at hdd; unfold J7; exact decide_eq_false qz6)))
   rw [hinv.2.2, Al8 hx hy hg]
   refine R5 ?_
   exact H5 rfl (A8 rfl B6)
  intro h79
  obtain ⟨hl, hdx⟩ := let_due2 hinv.2.1.1 h79
  have hg : isLetN n x = true ∧ (0 < i → J7 y x = true) := ⟨hl, fun h9 => by (rw [if_neg qz6] at hdd; unfold J7; exact decide_eq_true qz6)⟩
  have hd0 := hinv.2.1.1
  refine R11 ?_
  refine Q5 i d (i + 1) (x.Due) ?_ ?_ (AS5 1 ⟨rfl, rfl, rfl, trivial⟩)
  ·exact ⟨by omega, ⟨by omega, fun z hz => by (rw [if_neg qz6]; rw [show i + 1 - 1 = i by omega, hx] at hz; injection hz with hz; rw [hz])⟩, hinv.2.2.trans (Al7 hx hy hg)⟩
  omega
 intro h39
 have k39 := of_decide_eq_false h39; try simp only [A4] at k39
 have hge : n.Under.length ≤ i := (by simpa using h39)
 rw [hinv.2.2, As9 hge]
 refine R6 ?_
 exact H5 rfl (A8 rfl B6)
end Go.Proofs.YtkibefcceekmnaaGreatDoor
namespace Go.M
open Go.AV
theorem z6 {n : D5} {v : Int} (h : H2 n v = true) : 0 ≤ v ∧ v.toNat < n.Homes.length ∧ n.Homes[v.toNat]? = some (L9 n v) := by
  unfold H2 within at h
  rw [Bool.and_eq_true, decide_eq_true_eq, decide_eq_true_eq] at h
  have hl : v.toNat < n.Homes.length := by omega
  refine ⟨h.1, hl, ?_⟩
  unfold L9
  rw [List.getD_eq_getElem?_getD, List.getElem?_eq_getElem hl]; rfl
theorem AQ9 {f g : A7 → Bool} (hfg : ∀ x, f x = !g x) : ∀ (u : List A7) (k : Int), (idxFrom f u k = -1 ∧ (u.takeWhile g).length = u.length) ∨ (idxFrom f u k = k + ((u.takeWhile g).length : Int))
  | [], k => .inl ⟨rfl, rfl⟩
  | x :: u, k => by
    unfold idxFrom
    rw [hfg x]
    cases h : g x with
    | true =>
      rw [List.takeWhile_cons_of_pos h, J9, J9]
      simp only [Bool.not_true, Bool.false_eq_true, if_false]
      rcases AQ9 hfg u (k + 1) with ⟨h1, h2⟩ | h1
      · exact .inl ⟨h1, by omega⟩
      · exact .inr qz6
    | false =>
      rw [List.takeWhile_cons_of_neg (by rw [h]; exact Bool.false_ne_true)]
      exact .inr M8
theorem late_gt (l x : A7) : decide (l.Due < x.Due) = !J7 x l := by
  unfold J7
  by_cases h : l.Due < x.Due
  · rw [decide_eq_true h, decide_eq_false qz6]; rfl
  · rw [decide_eq_false h, decide_eq_true qz6]; rfl
theorem Ad4 {n : D5} {a b : Int} {s : Str} (h : ((!H2 n a || !H2 n b) || (a == b)) = true) : P3 n a b s = (T3, false) := by
  unfold P3 o2
  rw [if_neg]
  intro k
  simp only [Bool.and_eq_true, bne_iff_ne] at k
  rw [k.1.1, k.1.2, beq_eq_false_iff_ne.2 k.2] at h
  cases h
theorem Ad5 {n : D5} {a b : Int} {s : Str} (h : ((!H2 n a || !H2 n b) || (a == b)) = false) : (H2 n a = true ∧ H2 n b = true) ∧ P3 n a b s = if isLetN n (Q9 n a b s) && decide ((n.Under.length : Int) < 60) then (netU n (L2 n.Under (Q9 n a b s)), true) else (T3, false) := by
  simp only [Bool.or_eq_false_iff, Bool.not_eq_false', beq_eq_false_iff_ne] at h
  refine ⟨h.1, ?_⟩
  unfold P3 o2
  rw [if_pos (by rw [h.1.1, h.1.2, bne_iff_ne.2 h.2]; rfl)]
theorem AF8 {n : D5} (h : goodNet n = true) (a b : Int) (ha : H2 n a = true) (hb : H2 n b = true) : (0 ≤ L9 n a ∧ L9 n a ≤ 2) ∧ (0 ≤ L9 n b ∧ L9 n b ≤ 2) := by
  have h1 := (N2 h).2.2.1
  exact ⟨h1 _ (D9 (z6 ha).2.2), h1 _ (D9 (z6 hb).2.2)⟩
theorem AK8 {f m : Int} (hf : 0 ≤ f ∧ f ≤ 20) (hm : 0 ≤ m ∧ m ≤ 2) : 0 ≤ f * m ∧ f * m ≤ 40 := by
  obtain h | h | h : m = 0 ∨ m = 1 ∨ m = 2 := by omega
  · subst h; omega
  · subst h; omega
  · subst h; omega
theorem trip_max {d : Int} (h : -4 ≤ d ∧ d ≤ 4) : (if IntKind.i64.wrap (0 - d) > d then IntKind.i64.wrap (0 - d) else d) = max d (-d) := by
  rw [AP6 qz6]; split <;> omega
theorem AR0 : ∀ {u : List A7}, (∀ x ∈ u, x.Body.length ≤ 40) → sizeL A7.size u ≤ u.length * 41
  | [], _ => Nat.le_refl _
  | x :: l, h => by
    have i1 := AR0 (u := l) fun y hy => h y (List.mem_cons_of_mem _ hy)
    have i2 : x.size ≤ 40 := h x List.mem_cons_self
    unfold sizeL at i1 ⊢
    simp only [J9, List.map_cons, List.sum_cons]
    omega
theorem Am0 {n : D5} (hg : goodNet n = true) {u : List A7} (h : u.length ≤ 100) (hb : ∀ x ∈ u, x.Body.length ≤ 40) : (netU n u).size ≤ 1048576 := by
  have h1 := AR0 hb
  have h3 := (N2 hg).2.1
  show n.Homes.length + sizeL A7.size u ≤ 1048576
  omega
theorem At0 {u : List A7} {l : A7} (h : u.length ≤ 60) (hb : ∀ x ∈ u, x.Body.length ≤ 40) (hl : l.Body.length ≤ 40) {n : D5} (hg : goodNet n = true) : (netU n (L2 u l)).size ≤ 1048576 :=
  Am0 hg (by rw [m1]; omega) fun x hx => by
    rcases AF3.1 hx with rfl | hx
    · exact hl
    · exact hb x hx
theorem BA3 {n : D5} {l : A7} (h : (!isLetN n l || decide ((n.Under.length : Int) ≥ 60)) = true) : ¬ ((isLetN n l && decide ((n.Under.length : Int) < 60)) = true) := by
  intro k
  rw [Bool.and_eq_true, decide_eq_true_eq] at k
  rw [k.1, decide_eq_false qz6] at h
  cases h
theorem BA4 {n : D5} {l : A7} (h : (!isLetN n l || decide ((n.Under.length : Int) ≥ 60)) = false) : (isLetN n l && decide ((n.Under.length : Int) < 60)) = true := by
  rw [Bool.or_eq_false_iff, Bool.not_eq_false', decide_eq_false_iff_not] at h
  rw [h.1, decide_eq_true qz6]; rfl
theorem lose_if {n : D5} {k : Nat} (hh : o5 n (k : Int) = true) : Z0 n (k : Int) = ifNet n (n.Under.eraseIdx k) := by
  have hg := (m2 hh).1
  obtain ⟨a, b, c⟩ := j2 hg k
  have := AD2 hg a b c
  unfold Z0 ifNet
  rw [if_pos hh, if_pos this]; rfl
theorem Z4 {n : D5} {l : A7} (h : isLetN n l = true) : (0 ≤ l.Due ∧ l.Due ≤ 100200) ∧ 1 ≤ l.Body.length ∧ l.Body.length ≤ 40 := by
  unfold isLetN within at h
  simp only [Bool.and_eq_true, decide_eq_true_eq] at h
  omega
theorem Aw1 {n : D5} (hg : goodNet n = true) (k : Nat) : (netU n (n.Under.eraseIdx k)).size ≤ 1048576 := by
  have e := j2 hg k
  exact Am0 hg qz6 fun x hx => (Z4 (e.2.1 x hx)).2.2
theorem d9 {n : D5} (h : goodNet n = true) : n.size ≤ 3000 := by
  have h1 := N2 h
  obtain ⟨h2, h3, _⟩ := J2 h
  have h6 := AR0 (u := n.Under) fun l hl => (Z4 (h3 l hl)).2.2
  show n.Homes.length + sizeL A7.size n.Under ≤ 3000
  omega
theorem Am1 {n : D5} (hg : goodNet n = true) {l : A7} (hl : l ∈ n.Under) : (netU n (L2 n.Under l)).size ≤ 1048576 := by
  have h := J2 hg
  exact At0 qz6 (fun x hx => (Z4 (h.2.1 x hx)).2.2) (Z4 (h.2.1 l hl)).2.2 hg
theorem Am2 {n : D5} (hg : goodNet n = true) (k : Nat) {l : A7} {b : Int} (hl : l ∈ n.Under) : (netU n (L2 (n.Under.eraseIdx k) (w8 l b))).size ≤ 1048576 := by
  have h := J2 hg
  have e := j2 hg k
  exact At0 qz6 (fun x hx => (Z4 (e.2.1 x hx)).2.2) (show (w8 l b).Body.length ≤ 40 from (Z4 (h.2.1 l hl)).2.2) hg
theorem due_gt (n : D5) (x : A7) : decide (n.Now < x.Due) = !decide (x.Due ≤ n.Now) := by
  by_cases h : n.Now < x.Due
  · rw [decide_eq_true h, decide_eq_false qz6]; rfl
  · rw [decide_eq_false h, decide_eq_true qz6]; rfl
theorem tick_no {n : D5} (h : (!goodNet n || (n.Now == 100000)) = true) : ¬ ((goodNet n && (n.Now != 100000)) = true) := by
  intro k
  rw [Bool.and_eq_true, bne_iff_ne] at k
  rw [k.1, beq_eq_false_iff_ne.2 k.2] at h
  cases h
theorem tick_go2 {n : D5} (h : (!goodNet n || (n.Now == 100000)) = false) : goodNet n = true := by
  rw [Bool.or_eq_false_iff, Bool.not_eq_false'] at h; exact h.1
theorem tick_go {n : D5} (h : (!goodNet n || (n.Now == 100000)) = false) : (goodNet n && (n.Now != 100000)) = true := by
  rw [Bool.or_eq_false_iff, Bool.not_eq_false', beq_eq_false_iff_ne] at h
  rw [h.1, bne_iff_ne.2 h.2]; rfl
end Go.M
namespace Go.Proofs.YtkibefcceekmnaaGreatDoor
open Go Go.AV Go.M
attribute [local irreducible] OpW OpA OpS AWP D3 P2 F0 OpE RetOk K2 M3 Le Ev I4 Q8 Int.tmod Int.tdiv IntKind.wrap
theorem AK9 (l : List Int) (hl : l.length ≤ 4194304) : D3 Tryz.prog 44 [ints l] (ints l) := L8 (p8 l hl) fun v _ => I5 (List.mem_singleton.2 rfl) F5
theorem W7 (l : List A7) (hl : l.length ≤ 4194304) : D3 Tryz.prog 68 [AV.list 4 (l.map A7.cs)] (AV.list 4 (l.map A7.cs)) := L8 (S7 l hl) fun v _ => I5 (List.mem_singleton.2 rfl) F5
theorem f7 (n : D5) (hs : n.size ≤ 1048576) : D3 Tryz.prog 42 [AV.agg n.cs] (AV.agg n.cs) := by
  obtain ⟨h1, h2, h3⟩ := N8 hs
  refine C6 Tryz.func42 rfl Tryz.ntmps42 rfl ?_
  refine R3 ?_
  intro b1
  refine R1 ?_
  intro b2
  refine R5 ?_
  refine A2 rfl (B3 rfl Tryz.call44 rfl (AK9 _ qz6) (A1 (A0 rfl) A3)) ?_
  refine R7 ?_
  refine A2 rfl (B3 rfl Tryz.call68 rfl (W7 _ qz6) (A1 (A0 rfl) A3)) ?_
  refine R9 ?_
  exact H5 rfl (C3 (ys := _) 0 rfl rfl C2 B1 rfl)
theorem BA5 (n : D5) (a b : Int) (hg : goodNet n = true) (ha : H2 n a = true) (hb : H2 n b = true) : D3 Tryz.prog 109 [AV.agg n.cs, AV.int a, AV.int b] (AV.int (q8 n a b)) := by
  obtain ⟨a0, a1, a2⟩ := z6 ha
  obtain ⟨b0, b1, b2⟩ := z6 hb
  obtain ⟨r1, r2⟩ := AF8 hg a b ha hb
  have hfm := AK8 (N2 hg).2.2.2 (m := max (L9 n a - L9 n b) (-(L9 n a - L9 n b))) qz6
  refine C6 Tryz.func109 rfl Tryz.ntmps109 rfl ?_
  refine R3 ?_
  intro b3
  refine R7 ?_
  refine B8 rfl rfl (H3 rfl B5 D0 (A0 rfl) (A0 rfl) a2 qz6) ?_
  refine R4 ?_
  refine B8 rfl rfl (H3 rfl B5 D0 (A0 rfl) (A0 rfl) b2 qz6) ?_
  refine R10 ?_
  refine A2 rfl (w_neg rfl (A0 rfl)) ?_
  refine A2 rfl (w_max rfl (A0 rfl) (A0 rfl)) ?_
  rw [trip_max qz6]
  refine A2 rfl (u2 rfl (A0 rfl) (A0 rfl) qz3) ?_
  refine R4 ?_
  exact H5 rfl (A8 rfl B6)
theorem Aw2 (x l : A7) : D3 Tryz.prog 103 [AV.agg x.cs, AV.eptr l.cs] (AV.bool (decide (l.Due < x.Due))) := by
  refine C6 Tryz.func103 rfl Tryz.ntmps103 rfl ?_
  refine R3 ?_
  intro b2
  refine R12 ?_
  exact H5 rfl (A8 rfl W8)
theorem laid_own (u : List A7) (l : A7) (hu : u.length ≤ 1000000) : F0 Tryz.prog 80 [AV.list 4 (u.map A7.cs), AV.agg l.cs] [] (fun _ : Value => True) (fun v => [.arr v 68 4 ((L2 u l).map A7.cs)]) (fun v => AV.is v) := by
 have hip := AQ9 (late_gt l) u 0
 have hpl := Al4 u l
 refine E1 Tryz.func80 rfl Tryz.ntmps80 rfl ?_
 refine R3 ?_
 intro b3
 refine A2 rfl (P1 rfl L6) ?_
 refine R4 ?_
 refine A2 rfl (w_clo rfl rfl (A1 (A0 rfl) A3)) ?_
 refine A2 rfl (V7 rfl Tryz.call98 rfl (v1 _ _ _ Ab9) (F9 _ _) (F6 (evb (A0 rfl)) (F6 (AM3 (AW9 0 (A0 rfl) rfl) (AW7 Tryz.call103 (fun x (_ : True) => Aw2 x _))) N3))) ?_
 refine R8 ?_
 refine A6 (A0 rfl) ?_ ?_
 ·intro h10
  have k10 := of_decide_eq_true h10; try simp only [A4] at k10
  have hE : ((u.map A7.cs).length : Int) = ((V4 u l : Nat) : Int) := (by (rw [A4]; unfold V4 at hpl ⊢; rcases hip with ⟨h1, h2⟩ | h1 <;> omega))
  refine R6 ?_
  rw [hE]
  refine K7 _ 6 (.pure 0 (.pure 2 (.pure 3 (.e2 1 (.e1 4 (.e1 5 .nil)) 4 (.e1 1 (.e1 5 .nil)))))) qz8 qz8 rfl Q0 ?_
  refine R3 ?_
  refine Y8 ?_ ?_
  ·refine C4 rfl rfl rfl (E6 [] rfl Tryz.call68 rfl (S7 _ W1) (A1 (A0 rfl) A3) rfl) (fun a _ => qz2) ?_
   intro x14 ok14
   refine R1 ?_
   refine C4 rfl rfl rfl (u6 rfl A9 E2 Tryz.zeroValue68 rfl rfl rfl rfl (B7 (A0 rfl) (F2 _) I0) rfl rfl) (fun a _ => qz2) ?_
   intro v17 _
   refine R1 ?_
   refine C4 rfl rfl rfl (E6 [1, 1] rfl Tryz.call104 rfl (j3 _ _ u l (V4 u l) hpl qz6) (A1 (A0 rfl) (A1 (A0 rfl) (A1 (A0 rfl) A3))) rfl) (fun a _ => qz2) ?_
   intro x18 ok18
   refine R4 ?_
   exact F1 [1] x18 (trivial) rfl B6 (H4 rfl (A8 rfl B6))
  refine C4 rfl rfl rfl (u6 rfl A9 E2 Tryz.zeroValue68 rfl rfl rfl rfl (B7 (A0 rfl) (F2 _) I0) rfl rfl) (fun a _ => qz2) ?_
  intro v17 _
  refine R1 ?_
  refine C4 rfl rfl rfl (E6 [] rfl Tryz.call68 rfl (S7 _ W1) (A1 (A0 rfl) A3) rfl) (fun a _ => qz2) ?_
  intro x14 ok14
  refine R1 ?_
  refine C4 rfl rfl rfl (E6 [2, 1] rfl Tryz.call104 rfl (j3 _ _ u l (V4 u l) hpl qz6) (A1 (A0 rfl) (A1 (A0 rfl) (A1 (A0 rfl) A3))) rfl) (fun a _ => qz2) ?_
  intro x18 ok18
  refine R4 ?_
  exact F1 [1] x18 (trivial) rfl B6 (H4 rfl (A8 rfl B6))
 intro h10
 have k10 := of_decide_eq_false h10; try simp only [A4] at k10
 have hE : idxFrom (fun x : A7 => decide (l.Due < x.Due)) u 0 = ((V4 u l : Nat) : Int) := (by (unfold V4; rcases hip with ⟨h1, h2⟩ | h1 <;> omega))
 refine R2 ?_
 rw [hE]
 refine K7 _ 6 (.pure 0 (.pure 2 (.pure 3 (.e2 1 (.e1 4 (.e1 5 .nil)) 4 (.e1 1 (.e1 5 .nil)))))) qz8 qz8 rfl Q0 ?_
 refine R3 ?_
 refine Y8 ?_ ?_
 ·refine C4 rfl rfl rfl (E6 [] rfl Tryz.call68 rfl (S7 _ W1) (A1 (A0 rfl) A3) rfl) (fun a _ => qz2) ?_
  intro x14 ok14
  refine R1 ?_
  refine C4 rfl rfl rfl (u6 rfl A9 E2 Tryz.zeroValue68 rfl rfl rfl rfl (B7 (A0 rfl) (F2 _) I0) rfl rfl) (fun a _ => qz2) ?_
  intro v17 _
  refine R1 ?_
  refine C4 rfl rfl rfl (E6 [1, 1] rfl Tryz.call104 rfl (j3 _ _ u l (V4 u l) hpl qz6) (A1 (A0 rfl) (A1 (A0 rfl) (A1 (A0 rfl) A3))) rfl) (fun a _ => qz2) ?_
  intro x18 ok18
  refine R4 ?_
  exact F1 [1] x18 (trivial) rfl B6 (H4 rfl (A8 rfl B6))
 refine C4 rfl rfl rfl (u6 rfl A9 E2 Tryz.zeroValue68 rfl rfl rfl rfl (B7 (A0 rfl) (F2 _) I0) rfl rfl) (fun a _ => qz2) ?_
 intro v17 _
 refine R1 ?_
 refine C4 rfl rfl rfl (E6 [] rfl Tryz.call68 rfl (S7 _ W1) (A1 (A0 rfl) A3) rfl) (fun a _ => qz2) ?_
 intro x14 ok14
 refine R1 ?_
 refine C4 rfl rfl rfl (E6 [2, 1] rfl Tryz.call104 rfl (j3 _ _ u l (V4 u l) hpl qz6) (A1 (A0 rfl) (A1 (A0 rfl) (A1 (A0 rfl) A3))) rfl) (fun a _ => qz2) ?_
 intro x18 ok18
 refine R4 ?_
 exact F1 [1] x18 (trivial) rfl B6 (H4 rfl (A8 rfl B6))
theorem AR1 (u : List A7) (l : A7) (hu : u.length ≤ 1000000) : D3 Tryz.prog 80 [AV.list 4 (u.map A7.cs), AV.agg l.cs] (AV.list 4 ((L2 u l).map A7.cs)) := L8 (laid_own u l hu) fun v _ => I5 (List.mem_singleton.2 rfl) F5
theorem BA6 (n : D5) (a b : Int) (s : Str) (hg : goodNet n = true) (hs : s.length ≤ 1000) : D3 Tryz.prog 96 [AV.agg n.cs, AV.int a, AV.int b, AV.str s] (AV.tup [AV.agg (P3 n a b s).1.cs, AV.bool (P3 n a b s).2]) := by
 have hn := d9 hg
 obtain ⟨q1, q2, q3⟩ := N8 (n := n) qz6
 have hgh := N2 hg
 have h60 := (J2 hg).1
 refine C6 Tryz.func96 rfl Tryz.ntmps96 rfl ?_
 refine R3 ?_
 intro b4
 refine R1 ?_
 intro b8
 refine R7 ?_
 refine A2 rfl (B3 rfl Tryz.call23 rfl (j8 _ _ W1) (A1 (A0 rfl) (A1 (A0 rfl) A3))) ?_
 refine R4 ?_
 refine J6 rfl (fun hc => B3 rfl Tryz.call23 rfl (j8 _ _ W1) (A1 (B9 rfl hc) (A1 (B9 rfl hc) A3))) ?_
 refine R8 ?_
 refine A6 (A0 rfl) ?_ ?_
 ·intro h25
  rw [Ad4 h25]
  refine R7 ?_
  refine G9 0 1 1 rfl rfl ?_
  refine G9 0 3 4 rfl rfl ?_
  exact O3 rfl D1 (B2 (C3 (ys := _) 0 rfl rfl C2 B1 rfl) (B2 (A8 rfl B6) E3))
 intro h25
 obtain ⟨⟨ha, hb⟩, hgo⟩ := Ad5 (s := s) h25
 rw [hgo]
 obtain ⟨r1, r2⟩ := AF8 hg a b ha hb
 have hfm := AK8 hgh.2.2.2 (m := max (L9 n a - L9 n b) (-(L9 n a - L9 n b))) qz6
 have htr : 1 ≤ q8 n a b ∧ q8 n a b ≤ 41 := (by unfold q8; omega)
 refine R2 ?_
 refine K7 _ 12 (.pure 0 (.pure 1 (.pure 2 (.pure 3 (.pure 4 (.pure 5 (.pure 6 (.pure 7 (.pure 8 (.pure 9 (.pure 10 (.e1 11 .nil)))))))))))) qz8 qz8 rfl Q0 ?_
 refine R7 ?_
 refine M6 rfl rfl rfl (fun ext => B3 rfl Tryz.call109 rfl (BA5 n a b hg ha hb) (A1 (A0 rfl) (A1 (A0 rfl) (A1 (A0 rfl) A3)))) ?_
 refine R4 ?_
 refine C4 rfl rfl rfl (G4 rfl Tryz.zeroValue68 rfl) (fun a _ => qz2) ?_
 intro b10 _
 refine R8 ?_
 refine A2 rfl (B3 rfl Tryz.call38 rfl (AO6 n (Q9 n a b s) qz6) (A1 (A0 rfl) (A1 (A0 rfl) A3))) ?_
 refine R8 ?_
 refine A6 (A0 rfl) ?_ ?_
 ·intro h47
  rw [if_neg (show ¬ ((isLetN n (Q9 n a b s) && decide ((n.Under.length : Int) < 60)) = true) from BA3 (by rw [A4] at h47; exact h47))]
  refine R7 ?_
  refine G9 0 1 1 rfl rfl ?_
  refine G9 0 3 4 rfl rfl ?_
  exact O3 rfl D1 (B2 (C3 (ys := _) 0 rfl rfl C2 B1 rfl) (B2 (A8 rfl B6) E3))
 intro h47
 rw [if_pos (show (isLetN n (Q9 n a b s) && decide ((n.Under.length : Int) < 60)) = true from BA4 (by rw [A4] at h47; exact h47))]
 refine R5 ?_
 refine A2 rfl (B3 rfl Tryz.call44 rfl (AK9 _ qz6) (A1 (A0 rfl) A3)) ?_
 refine R8 ?_
 refine A2 rfl (B3 rfl Tryz.call80 rfl (AR1 n.Under (Q9 n a b s) qz6) (A1 (A0 rfl) (A1 (A0 rfl) A3))) ?_
 refine R10 ?_
 exact O3 rfl D1 (B2 (C3 (ys := _) 0 rfl rfl C2 B1 rfl) (B2 (A8 rfl B6) E3))
theorem z7 (n : D5) (u : List A7) (hs : n.size ≤ 1048576) (hu : (netU n u).size ≤ 1048576) : D3 Tryz.prog 78 [AV.agg n.cs, AV.list 4 (u.map A7.cs)] (AV.tup [AV.agg (ifNet n u).1.cs, AV.bool (ifNet n u).2]) := by
 refine C6 Tryz.func78 rfl Tryz.ntmps78 rfl ?_
 refine R3 ?_
 intro b2
 refine R1 ?_
 intro b4
 refine R5 ?_
 refine A2 rfl (B3 rfl Tryz.call42 rfl (f7 n hs) (A1 (A0 rfl) A3)) ?_
 refine R1 ?_
 intro b6
 refine R12 ?_
 refine A2 rfl (B3 rfl Tryz.call17 rfl (v6 (netU n u) hu) (A1 (A0 rfl) A3)) ?_
 refine R2 ?_
 refine A6 (A0 rfl) ?_ ?_
 ·intro h13
  rw [show ifNet n u = (T3, false) from if_neg (by simpa using h13)]
  refine R7 ?_
  refine G9 1 1 1 rfl rfl ?_
  refine G9 1 3 4 rfl rfl ?_
  exact O3 rfl D1 (B2 (C3 (ys := _) 1 rfl rfl C2 B1 rfl) (B2 (A8 rfl B6) E3))
 intro h13
 rw [show ifNet n u = (netU n u, true) from if_pos (by simpa using h13)]
 refine R8 ?_
 exact O3 rfl D1 (B2 (C3 (ys := _) 1 rfl rfl C2 B1 rfl) (B2 (A8 rfl B6) E3))
theorem AF9 (n : D5) (i : Int) (hs : n.size ≤ 1048576) : D3 Tryz.prog 77 [AV.agg n.cs, AV.int i] (AV.bool (o5 n i)) := by
  obtain ⟨h1, h2, h3⟩ := N8 hs
  refine C6 Tryz.func77 rfl Tryz.ntmps77 rfl ?_
  refine R3 ?_
  intro b2
  refine R5 ?_
  refine A2 rfl (B3 rfl Tryz.call17 rfl (v6 n hs) (A1 (A0 rfl) A3)) ?_
  refine R5 ?_
  refine U5 rfl (fun hc => AE6 rfl (B9 rfl hc) D4 AE5) ?_
  refine U5 rfl (fun hc => B3 rfl Tryz.call22 rfl (O7 _ _ _) (A1 (B9 rfl hc) (A1 D4 (A1 (B9 rfl hc) A3)))) ?_
  refine R4 ?_
  exact H5 rfl (A8 rfl (by first | rfl | exact congrArg AV.bool (by unfold o5; rw [A4])))
theorem Am3 (n : D5) (i : Int) (hs : n.size ≤ 1048576) : D3 Tryz.prog 48 [AV.agg n.cs, AV.int i] (AV.tup [AV.agg (Z0 n i).1.cs, AV.bool (Z0 n i).2]) := by
 obtain ⟨q1, q2, q3⟩ := N8 hs
 refine C6 Tryz.func48 rfl Tryz.ntmps48 rfl ?_
 refine R3 ?_
 intro b2
 refine R1 ?_
 intro b4
 refine R7 ?_
 refine A2 rfl (B3 rfl Tryz.call77 rfl (AF9 n i hs) (A1 (A0 rfl) (A1 (A0 rfl) A3))) ?_
 refine R2 ?_
 refine A6 (A0 rfl) ?_ ?_
 ·intro h9
  rw [show Z0 n i = (T3, false) from if_neg AO8]
  refine R7 ?_
  refine G9 0 1 1 rfl rfl ?_
  refine G9 0 3 4 rfl rfl ?_
  exact O3 rfl D1 (B2 (C3 (ys := _) 0 rfl rfl C2 B1 rfl) (B2 (A8 rfl B6) E3))
 intro h9
 have hh : o5 n i = true := AO8
 obtain ⟨hg, hi0, hil, hix⟩ := m2 hh
 have h60 := (J2 hg).1
 obtain ⟨k, rfl⟩ : ∃ k : Nat, i = (k : Int) := ⟨i.toNat, by omega⟩
 rw [lose_if hh]
 refine R2 ?_
 refine K1 _ [(0, false), (1, false), (2, false), (4, false), (5, false), (6, false), (3, true), (7, true), (8, false), (9, false), (10, false)] qz8 qz8 rfl Q0 ?_
 refine R6 ?_
 refine N1 rfl rfl rfl (E6 [] rfl Tryz.call68 rfl (S7 _ W1) (A1 (A0 rfl) A3) rfl) (fun a _ => qz2) ?_
 intro x14 ok14
 refine N1 rfl rfl rfl (Ag6 [2] (fun _ => rfl) (fun _ => I5 (D9 (i := 0) rfl) F5) (fun _ => AB8) (E6 [2] rfl Tryz.call79 rfl (AF7 _ n.Under k qz6 qz6) (A1 (A0 rfl) (A1 (A0 rfl) (A1 (A0 rfl) A3))) rfl)) (fun a _ => qz2) ?_
 intro x18 ok18
 refine M5 rfl rfl rfl (fun ext => B3 rfl Tryz.call78 rfl (z7 n (n.Under.eraseIdx k) hs (Aw1 hg k)) (A1 (A0 rfl) (A1 (A0 rfl) A3))) ?_
 refine R7 ?_
 exact O3 rfl D1 (B2 (C3 (ys := _) 0 rfl rfl C2 B1 rfl) (B2 (A8 rfl B6) E3))
theorem Ad6 (n : D5) (i : Int) (hs : n.size ≤ 1048576) : D3 Tryz.prog 49 [AV.agg n.cs, AV.int i] (AV.tup [AV.agg (S8 n i).1.cs, AV.bool (S8 n i).2]) := by
 obtain ⟨q1, q2, q3⟩ := N8 hs
 refine C6 Tryz.func49 rfl Tryz.ntmps49 rfl ?_
 refine R3 ?_
 intro b2
 refine R1 ?_
 intro b4
 refine R7 ?_
 refine A2 rfl (B3 rfl Tryz.call77 rfl (AF9 n i hs) (A1 (A0 rfl) (A1 (A0 rfl) A3))) ?_
 refine R2 ?_
 refine A6 (A0 rfl) ?_ ?_
 ·intro h9
  rw [show S8 n i = (T3, false) from if_neg AO8]
  refine R7 ?_
  refine G9 0 1 1 rfl rfl ?_
  refine G9 0 3 4 rfl rfl ?_
  exact O3 rfl D1 (B2 (C3 (ys := _) 0 rfl rfl C2 B1 rfl) (B2 (A8 rfl B6) E3))
 intro h9
 have hh : o5 n i = true := AO8
 obtain ⟨hg, hi0, hil, hix⟩ := m2 hh
 have h60 := (J2 hg).1
 rw [show S8 n i = ifNet n (L2 n.Under (letAt n i)) from if_pos hh]
 refine R2 ?_
 refine H1 12 qz8 qz8 rfl ?_
 refine R6 ?_
 refine B8 rfl rfl (H3 rfl A9 E2 (A0 rfl) (A0 rfl) hix qz6) ?_
 refine R1 ?_
 refine B8 rfl rfl (B3 rfl Tryz.call80 rfl (AR1 _ _ W1) (A1 (A0 rfl) (A1 (A0 rfl) A3))) ?_
 refine B8 rfl rfl (B3 rfl Tryz.call78 rfl (z7 n (L2 n.Under (letAt n i)) hs (Am1 hg (D9 hix))) (A1 (A0 rfl) (A1 (A0 rfl) A3))) ?_
 refine R7 ?_
 exact O3 rfl D1 (B2 (C3 (ys := _) 0 rfl rfl C2 B1 rfl) (B2 (A8 rfl B6) E3))
theorem Ai2 (n : D5) (i by' : Int) (hs : n.size ≤ 1048576) : D3 Tryz.prog 50 [AV.agg n.cs, AV.int i, AV.int by'] (AV.tup [AV.agg (V5 n i by').1.cs, AV.bool (V5 n i by').2]) := by
 obtain ⟨q1, q2, q3⟩ := N8 hs
 refine C6 Tryz.func50 rfl Tryz.ntmps50 rfl ?_
 refine R3 ?_
 intro b3
 refine R1 ?_
 intro b6
 refine R7 ?_
 refine A2 rfl (B3 rfl Tryz.call77 rfl (AF9 n i hs) (A1 (A0 rfl) (A1 (A0 rfl) A3))) ?_
 refine R3 ?_
 refine J6 rfl (fun hc => B3 rfl Tryz.call22 rfl (O7 _ _ _) (A1 (B9 rfl hc) (A1 D4 (A1 D4 A3)))) ?_
 refine R3 ?_
 refine A6 (A0 rfl) ?_ ?_
 ·intro h17
  rw [show V5 n i by' = (T3, false) from if_neg (by rw [Bool.and_eq_true]; intro k; rw [k.1, k.2] at h17; cases h17)]
  refine R7 ?_
  refine G9 0 1 1 rfl rfl ?_
  refine G9 0 3 4 rfl rfl ?_
  exact O3 rfl D1 (B2 (C3 (ys := _) 0 rfl rfl C2 B1 rfl) (B2 (A8 rfl B6) E3))
 intro h17
 have hh : (o5 n i && within by' 1 50) = true := (by simpa using h17)
 rw [show V5 n i by' = ifNet n (L2 (n.Under.eraseIdx i.toNat) (w8 (letAt n i) by')) from if_pos hh]
 rw [Bool.and_eq_true] at hh
 obtain ⟨hg, hi0, hil, hix⟩ := m2 hh.1
 obtain ⟨k, rfl⟩ : ∃ k : Nat, i = (k : Int) := ⟨i.toNat, by omega⟩
 have hby : 1 ≤ by' ∧ by' ≤ 50 := K4 hh.2
 have hdu := Z4 (J2 hg |>.2.1 _ (D9 hix))
 have heg := j2 hg k
 refine R6 ?_
 refine A2 rfl (H3 rfl A9 E2 (A0 rfl) (A0 rfl) hix qz6) ?_
 refine R2 ?_
 intro b8
 refine R12 ?_
 refine K1 _ [(0, false), (1, false), (2, false), (4, false), (5, false), (6, false), (8, false), (3, true), (7, true), (9, false), (10, false), (11, false), (12, false)] qz8 qz8 rfl Q0 ?_
 refine R7 ?_
 refine N1 rfl rfl rfl (E6 [] rfl Tryz.call68 rfl (S7 _ W1) (A1 (A0 rfl) A3) rfl) (fun a _ => qz2) ?_
 intro x32 ok32
 refine N1 rfl rfl rfl (Ag6 [3] (fun _ => rfl) (fun _ => I5 (D9 (i := 0) rfl) F5) (fun _ => AB8) (E6 [3] rfl Tryz.call79 rfl (AF7 _ n.Under k qz6 qz6) (A1 (A0 rfl) (A1 (A0 rfl) (A1 (A0 rfl) A3))) rfl)) (fun a _ => qz2) ?_
 intro x36 ok36
 refine M5 rfl rfl rfl (fun ext => B3 rfl Tryz.call80 rfl (AR1 (n.Under.eraseIdx k) (w8 (letAt n k) by') qz6) (A1 (A0 rfl) (A1 (A0 rfl) A3))) ?_
 refine M5 rfl rfl rfl (fun ext => B3 rfl Tryz.call78 rfl (z7 n (L2 (n.Under.eraseIdx k) (w8 (letAt n k) by')) hs (Am2 hg k (D9 hix))) (A1 (A0 rfl) (A1 (A0 rfl) A3))) ?_
 refine R7 ?_
 exact O3 rfl D1 (B2 (C3 (ys := _) 1 rfl rfl C2 B1 rfl) (B2 (A8 rfl B6) E3))
theorem Aa0 (x : A7) (n : D5) : D3 Tryz.prog 99 [AV.agg x.cs, AV.eptr n.cs] (AV.bool (decide (n.Now < x.Due))) := by
  refine C6 Tryz.func99 rfl Tryz.ntmps99 rfl ?_
  refine R3 ?_
  intro b2
  refine R12 ?_
  exact H5 rfl (A8 rfl W8)
theorem Ad7 (n : D5) (hs : n.size ≤ 1048576) : D3 Tryz.prog 73 [AV.agg n.cs] (AV.tup [AV.agg (U9 n).cs, AV.list 4 ((S0 n).map A7.cs)]) := by
 obtain ⟨q1, q2, q3⟩ := N8 hs
 have hip := AQ9 (due_gt n) n.Under 0
 have hpl : AO4 n ≤ n.Under.length := (List.takeWhile_prefix (l := n.Under) fun x => decide (x.Due ≤ n.Now)).length_le
 refine C6 Tryz.func73 rfl Tryz.ntmps73 rfl ?_
 refine R3 ?_
 intro b1
 refine R1 ?_
 intro b2
 refine A2 rfl (P1 rfl (Ac4 (sz := 4))) ?_
 refine R5 ?_
 refine A2 rfl (w_clo rfl rfl (A1 (A0 rfl) A3)) ?_
 refine A2 rfl (V7 rfl Tryz.call98 rfl (v1 _ _ _ Ab9) (F9 _ _) (F6 (evb (A0 rfl)) (F6 (AM3 (AW9 1 (A0 rfl) rfl) (AW7 Tryz.call99 (fun x (_ : True) => Aa0 x _))) N3))) ?_
 refine R8 ?_
 refine A6 (A0 rfl) ?_ ?_
 ·intro h11
  have k11 := of_decide_eq_true h11; try simp only [A4] at k11
  have hE : ((n.Under.map A7.cs).length : Int) = ((AO4 n : Nat) : Int) := (by (rw [A4]; unfold AO4 at hpl ⊢; rcases hip with ⟨h1, h2⟩ | h1 <;> omega))
  refine R7 ?_
  rw [hE]
  refine R2 ?_
  refine A2 rfl (B3 rfl Tryz.call42 rfl (f7 n hs) (A1 (A0 rfl) A3)) ?_
  refine R1 ?_
  intro b5
  refine R7 ?_
  refine A2 rfl (r9 rfl A9 E2 (A0 rfl) (A0 rfl) qz3 qz3) ?_
  refine A2 rfl (B3 rfl Tryz.call68 rfl (W7 _ qz43) (A1 (A0 rfl) A3)) ?_
  refine R4 ?_
  refine H1 6 qz8 qz8 rfl ?_
  refine R4 ?_
  refine B8 rfl rfl (r8 rfl A9 E2 (A0 rfl) (A0 rfl) qz3 qz3) ?_
  refine B8 rfl rfl (B3 rfl Tryz.call68 rfl (W7 _ qz43) (A1 (A0 rfl) A3)) ?_
  refine R5 ?_
  exact O3 rfl D1 (B2 (C3 (ys := _) 1 rfl rfl C2 B1 rfl) (B2 (A8 rfl B6) E3))
 intro h11
 have k11 := of_decide_eq_false h11; try simp only [A4] at k11
 have hE : idxFrom (fun x : A7 => decide (n.Now < x.Due)) n.Under 0 = ((AO4 n : Nat) : Int) := (by (unfold AO4; rcases hip with ⟨h1, h2⟩ | h1 <;> omega))
 refine R2 ?_
 rw [hE]
 refine R2 ?_
 refine A2 rfl (B3 rfl Tryz.call42 rfl (f7 n hs) (A1 (A0 rfl) A3)) ?_
 refine R1 ?_
 intro b5
 refine R7 ?_
 refine A2 rfl (r9 rfl A9 E2 (A0 rfl) (A0 rfl) qz3 qz3) ?_
 refine A2 rfl (B3 rfl Tryz.call68 rfl (W7 _ qz43) (A1 (A0 rfl) A3)) ?_
 refine R4 ?_
 refine H1 6 qz8 qz8 rfl ?_
 refine R4 ?_
 refine B8 rfl rfl (r8 rfl A9 E2 (A0 rfl) (A0 rfl) qz3 qz3) ?_
 refine B8 rfl rfl (B3 rfl Tryz.call68 rfl (W7 _ qz43) (A1 (A0 rfl) A3)) ?_
 refine R5 ?_
 exact O3 rfl D1 (B2 (C3 (ys := _) 1 rfl rfl C2 B1 rfl) (B2 (A8 rfl B6) E3))
theorem Am4 (n : D5) (hs : n.size ≤ 1048576) : D3 Tryz.prog 72 [AV.agg n.cs] (AV.tup [AV.agg (tickN n).1.cs, AV.bool (tickN n).2]) := by
 refine C6 Tryz.func72 rfl Tryz.ntmps72 rfl ?_
 refine R3 ?_
 intro b1
 refine R1 ?_
 intro b2
 refine R6 ?_
 refine A2 rfl (B3 rfl Tryz.call17 rfl (v6 n hs) (A1 (A0 rfl) A3)) ?_
 refine R7 ?_
 refine A6 (A0 rfl) ?_ ?_
 ·intro h12
  rw [show tickN n = (T3, false) from if_neg (tick_no h12)]
  refine R7 ?_
  refine G9 0 1 1 rfl rfl ?_
  refine G9 0 3 4 rfl rfl ?_
  exact O3 rfl D1 (B2 (C3 (ys := _) 0 rfl rfl C2 B1 rfl) (B2 (A8 rfl B6) E3))
 intro h12
 rw [show tickN n = ({ n with Now := n.Now + 1 }, true) from if_pos (tick_go h12)]
 have hnw := (N2 (tick_go2 h12)).1
 refine R4 ?_
 refine A2 rfl (B3 rfl Tryz.call42 rfl (f7 n hs) (A1 (A0 rfl) A3)) ?_
 refine R1 ?_
 intro b4
 refine R17 ?_
 exact O3 rfl D1 (B2 (C3 (ys := _) 1 rfl rfl C2 B1 rfl) (B2 (A8 rfl B6) E3))
end Go.Proofs.YtkibefcceekmnaaGreatDoor
namespace Go.M
open Go.AV
def ifN (n : D5) : D5 × Bool := if goodNet n = true then (n, true) else (T3, false)
theorem Aa1 {α : Type} {p : α → Bool} : ∀ {l : List α} {i : Nat}, i ≤ l.length → (∀ x ∈ l.take i, p x = true) → (i = l.length ∨ ∃ x, l[i]? = some x ∧ p x = false) → (l.takeWhile p).length = i
  | [], i, hi, _, _ => by
    have : i = 0 := by simpa using hi
    subst this; rfl
  | y :: l, 0, _, _, h => by
    rcases h with h | ⟨x, hx, hp⟩
    · cases h
    · injection hx with hx; subst hx
      rw [List.takeWhile_cons_of_neg (by rw [hp]; exact Bool.false_ne_true)]; rfl
  | y :: l, i + 1, hi, ha, h => by
    have hy := ha y (by rw [AA6]; exact List.mem_cons_self)
    rw [List.takeWhile_cons_of_pos hy, J9, Aa1 (i := i) (by simpa using hi) (fun x hx => ha x (by rw [AA6]; exact List.mem_cons_of_mem _ hx))]
    rcases h with h | ⟨x, hx, hp⟩
    · exact .inl AO7
    · exact .inr ⟨x, by simpa using hx, hp⟩
theorem Ad8 {α : Type} {p : α → Bool} {l : List α} {i : Nat} {x : α} (h : ∀ y ∈ l.take i, p y = true) (hx : l[i]? = some x) (hp : p x = true) : ∀ y ∈ l.take (i + 1), p y = true := fun y hy => by
  rw [List.take_add_one, hx] at hy
  rcases List.mem_append.1 hy with hy | hy
  · exact h y hy
  · rw [List.mem_singleton.1 hy]; exact hp
theorem out_eq (u : List A7) (k : Nat) : u.take k ++ u.drop (k + 1) = u.eraseIdx k := (List.eraseIdx_eq_take_drop_succ u k).symm
theorem At1 {n : D5} (h : goodNet n = true) : ifN { n with Now := n.Now + 1 } = tickN n := by
  have hn := (N2 h).1
  unfold ifN tickN
  by_cases hc : n.Now = 100000
  · rw [if_neg, if_neg (by rw [h, hc]; decide)]
    intro k
    have := (N2 k).1
    dsimp only at this
    omega
  · have hc2 : (goodNet n && (n.Now != 100000)) = true := by rw [h, bne_iff_ne.2 hc]; rfl
    have h2 : (tickN n).2 = true := by unfold tickN; rw [if_pos hc2]
    have h3 := (AB9 h2).2.1
    unfold tickN at h3
    rw [if_pos hc2] at h3
    rw [if_pos h3, if_pos hc2]
def letU (u : List A7) (i : Nat) : A7 := u.getD i zLet
theorem AG0 {u : List A7} {i : Nat} (h : i < u.length) : u[i]? = some (letU u i) := by
  unfold letU; rw [List.getD_eq_getElem?_getD, List.getElem?_eq_getElem h]; rfl
theorem Ag9 {u : List A7} {i : Nat} (h : i < u.length) : (u.map A7.cs)[(i : Int).toNat]? = some (letU u i).cs := by
  rw [Int.toNat_natCast, List.getElem?_map, AG0 h]; rfl
theorem in_stop {u : List A7} {l : A7} {i : Nat} (hi : i ≤ u.length) (h : (decide ((i : Int) < (u.length : Int)) && decide ((letU u i).Due ≤ l.Due)) = false) : i = u.length ∨ ∃ x, u[i]? = some x ∧ J7 x l = false := by
  by_cases hl : i < u.length
  · refine .inr ⟨_, AG0 hl, ?_⟩
    rw [decide_eq_true (show (i : Int) < (u.length : Int) by omega), Bool.true_and] at h
    exact h
  · exact .inl qz6
theorem due_stop {n : D5} {i : Nat} (hi : i ≤ n.Under.length) (h : (decide ((i : Int) < (n.Under.length : Int)) && decide ((letU n.Under i).Due ≤ n.Now)) = false) : i = n.Under.length ∨ ∃ x, n.Under[i]? = some x ∧ decide (x.Due ≤ n.Now) = false := by
  by_cases hl : i < n.Under.length
  · refine .inr ⟨_, AG0 hl, ?_⟩
    rw [decide_eq_true (show (i : Int) < (n.Under.length : Int) by omega), Bool.true_and] at h
    exact h
  · exact .inl qz6
theorem may_go {n : D5} {a b : Int} (h : ((!H2 n a || !H2 n b) || (a == b)) = false) : o2 n a b = true := by
  simp only [Bool.or_eq_false_iff, Bool.not_eq_false', beq_eq_false_iff_ne] at h
  unfold o2
  rw [h.1.1, h.1.2, bne_iff_ne.2 h.2]; rfl
theorem AN7 {c : Nat} : ∀ {u : List A7}, (∀ x ∈ u, x.Body.length ≤ c) → sizeL A7.size u ≤ u.length * (c + 1)
  | [], _ => by rw [Z3, Nat.zero_mul]; exact Nat.le_refl _
  | x :: l, h => by
    have i1 := AN7 (u := l) fun y hy => h y (List.mem_cons_of_mem _ hy)
    have i2 : x.size ≤ c := h x List.mem_cons_self
    have i3 : (l.length + 1) * (c + 1) = l.length * (c + 1) + (c + 1) := Nat.succ_mul _ _
    unfold sizeL at i1 ⊢
    simp only [J9, List.map_cons, List.sum_cons]
    omega
theorem At2 {n : D5} (hg : goodNet n = true) (l : A7) (hl : l.Body.length ≤ 1000) : (netU n (L2 n.Under l)).size ≤ 1048576 := by
  have h := J2 hg
  have h1 := AN7 (c := 1000) (u := L2 n.Under l) fun x hx => by
    rcases AF3.1 hx with rfl | hx
    · exact hl
    · have := (Z4 (h.2.1 x hx)).2.2; omega
  have h2 := m1 n.Under l
  have h3 := (N2 hg).2.1
  show n.Homes.length + sizeL A7.size (L2 n.Under l) ≤ 1048576
  omega
end Go.M
namespace Go.Proofs.YtkibefcceekmnaaGreatDoor
open Go Go.AV Go.M
attribute [local irreducible] OpW OpA OpS AWP D3 P2 F0 OpE RetOk K2 M3 Le Ev I4 Q8 Int.tmod Int.tdiv IntKind.wrap
theorem p6 (l : List Int) (hl : l.length ≤ 4194304) : D3 Tryz.prog 52 [ints l] (ints l) := L8 (AQ8 l hl) fun v _ => I5 (List.mem_singleton.2 rfl) F5
theorem AD3 (u : List A7) (hu : u.length ≤ 4194304) : F0 Tryz.prog 81 [AV.list 4 (u.map A7.cs)] [] (fun _ : Value => True) (fun v => [.arr v 68 4 (u.map A7.cs)]) (fun v => AV.is v) := by
  refine E1 Tryz.func81 rfl Tryz.ntmps81 rfl ?_
  refine R2 ?_
  refine A2 rfl (P1 rfl L6) ?_
  refine R3 ?_
  refine P4 rfl rfl rfl rfl A9 E2 ?_
  intro v3
  refine R1 ?_
  refine N0 (by' := 40) 0 rfl rfl rfl rfl A9 Tryz.type68 rfl rfl rfl rfl rfl rfl (A0 rfl) (A0 rfl) rfl qz3 ?_
  intro v5_1
  refine R3 ?_
  exact F1 [0] v5_1 (trivial) rfl B6 (H4 rfl (A8 rfl B6))
theorem AV3 (u : List A7) (hu : u.length ≤ 4194304) : D3 Tryz.prog 81 [AV.list 4 (u.map A7.cs)] (AV.list 4 (u.map A7.cs)) := L8 (AD3 u hu) fun v _ => I5 (List.mem_singleton.2 rfl) F5
theorem c6 (n : D5) (u : List A7) (hs : n.Homes.length ≤ 1048576) (hu : u.length ≤ 1048576) : D3 Tryz.prog 51 [AV.agg n.cs, AV.list 4 (u.map A7.cs)] (AV.agg (netU n u).cs) := by
 refine C6 Tryz.func51 rfl Tryz.ntmps51 rfl ?_
 refine R3 ?_
 intro b2
 refine R1 ?_
 intro b4
 refine R2 ?_
 refine H1 10 qz8 qz8 rfl ?_
 refine R4 ?_
 refine B8 rfl rfl (B3 rfl Tryz.call52 rfl (p6 _ qz6) (A1 (A0 rfl) A3)) ?_
 refine R3 ?_
 refine B8 rfl rfl (B3 rfl Tryz.call81 rfl (AV3 _ W1) (A1 (A0 rfl) A3)) ?_
 refine R5 ?_
 exact H5 rfl (C3 (ys := _) 0 rfl rfl C2 B1 rfl)
theorem AI1 (n : D5) (hs : n.size ≤ 1048576) : D3 Tryz.prog 90 [AV.agg n.cs] (AV.tup [AV.agg (ifN n).1.cs, AV.bool (ifN n).2]) := by
 refine C6 Tryz.func90 rfl Tryz.ntmps90 rfl ?_
 refine R3 ?_
 intro b1
 refine R1 ?_
 intro b2
 refine R6 ?_
 refine A2 rfl (B3 rfl Tryz.call33 rfl (S5 n hs) (A1 (A0 rfl) A3)) ?_
 refine R2 ?_
 refine A6 (A0 rfl) ?_ ?_
 ·intro h6
  rw [show ifN n = (T3, false) from if_neg (by simpa using h6)]
  refine R7 ?_
  refine G9 0 1 1 rfl rfl ?_
  refine G9 0 3 4 rfl rfl ?_
  exact O3 rfl D1 (B2 (C3 (ys := _) 0 rfl rfl C2 B1 rfl) (B2 (A8 rfl B6) E3))
 intro h6
 rw [show ifN n = (n, true) from if_pos (by simpa using h6)]
 refine R8 ?_
 exact O3 rfl D1 (B2 (C3 (ys := _) 0 rfl rfl C2 B1 rfl) (B2 (A8 rfl B6) E3))
theorem Am5 (a b : Int) : D3 Tryz.prog 120 [AV.int a, AV.int b] (AV.int (max a b)) := by
 refine C6 Tryz.func120 rfl Tryz.ntmps120 rfl ?_
 refine R11 ?_
 refine A6 (A0 rfl) ?_ ?_
 ·intro h7
  have k7 := of_decide_eq_true h7; try simp only [A4] at k7
  have h9 := of_decide_eq_true h7
  refine R6 ?_
  exact H5 rfl (A8 rfl (by exact congrArg AV.int qz6))
 intro h7
 have k7 := of_decide_eq_false h7; try simp only [A4] at k7
 have h9 := of_decide_eq_false h7
 refine R7 ?_
 exact H5 rfl (A8 rfl (by exact congrArg AV.int qz6))
theorem AV4 (n : D5) (a b : Int) (hg : goodNet n = true) (ha : H2 n a = true) (hb : H2 n b = true) : D3 Tryz.prog 108 [AV.agg n.cs, AV.int a, AV.int b] (AV.int (q8 n a b)) := by
  obtain ⟨a0, a1, a2⟩ := z6 ha
  obtain ⟨b0, b1, b2⟩ := z6 hb
  obtain ⟨r1, r2⟩ := AF8 hg a b ha hb
  have hfm := AK8 (N2 hg).2.2.2 (m := max (L9 n a - L9 n b) (-(L9 n a - L9 n b))) qz6
  refine C6 Tryz.func108 rfl Tryz.ntmps108 rfl ?_
  refine R3 ?_
  intro b3
  refine R7 ?_
  refine B8 rfl rfl (H3 rfl B5 D0 (A0 rfl) (A0 rfl) a2 qz6) ?_
  refine R4 ?_
  refine B8 rfl rfl (H3 rfl B5 D0 (A0 rfl) (A0 rfl) b2 qz6) ?_
  refine R5 ?_
  have hw : IntKind.i64.wrap (0 - (L9 n a - L9 n b)) = -(L9 n a - L9 n b) := (by rw [AP6 qz6]; omega)
  refine R5 ?_
  refine B8 rfl rfl (w_neg rfl (A0 rfl)) ?_
  refine B8 rfl rfl (B3 rfl Tryz.call120 rfl (Am5 (L9 n a - L9 n b) (IntKind.i64.wrap (0 - (L9 n a - L9 n b)))) (A1 (A0 rfl) (A1 (A0 rfl) A3))) ?_
  rw [hw]
  refine B8 rfl rfl (u2 rfl (A0 rfl) (A0 rfl) qz3) ?_
  refine R4 ?_
  exact H5 rfl (A8 rfl B6)
theorem l7In_own (u : List A7) (l : A7) (hu : u.length ≤ 1000000) : F0 Tryz.prog 91 [AV.list 4 (u.map A7.cs), AV.agg l.cs] [] (fun _ : Value => True) (fun v => [.arr v 68 4 ((L2 u l).map A7.cs)]) (fun v => AV.is v) := by
 refine E1 Tryz.func91 rfl Tryz.ntmps91 rfl ?_
 refine R3 ?_
 intro b3
 refine A2 rfl (P1 rfl L6) ?_
 refine R7 ?_
 refine J0 [(0, _), (3, _), (4, _)] _ (fun (i : Nat) => i ≤ u.length ∧ (∀ x ∈ u.take i, J7 x l = true)) (fun (i : Nat) => []) (fun (i : Nat) => [(5, AV.int i)]) (fun (i : Nat) => u.length - i) (0) ?_ (K6 ⟨rfl, rfl, rfl, rfl, trivial⟩) ?_
 ·exact ⟨Nat.zero_le _, fun x hx => by cases hx⟩
 intro i hinv
 refine R10 ?_
 refine N9 rfl (j7 rfl rfl rfl) (fun hc => w_idx rfl A9 E2 (B9 rfl hc) (B9 rfl hc) (by have h9 := of_decide_eq_true hc; omega) (by have h9 := of_decide_eq_true hc; rw [A4] at h9; exact Ag9 qz6)) ?_
 refine R7 ?_
 refine A6 (A0 rfl) ?_ ?_
 ·intro h19
  rw [Bool.and_eq_true, decide_eq_true_eq, decide_eq_true_eq] at h19
  have hlt : i < u.length := (by have h9 := h19.1; rw [A4] at h9; omega)
  have hx := AG0 hlt
  obtain ⟨x, hxe⟩ : ∃ x, letU u i = x := ⟨_, rfl⟩
  rw [hxe] at hx
  have hdx : J7 x l = true := (by unfold J7; rw [← hxe]; exact decide_eq_true h19.2)
  refine R7 ?_
  refine AP4 ?_
  refine L0 i (i + 1) ?_ ?_ (K6 ⟨rfl, rfl, rfl, rfl, trivial⟩)
  ·exact ⟨by omega, Ad8 hinv.2 hx hdx⟩
  omega
 intro h19
 have hfin : V4 u l = i := Aa1 hinv.1 hinv.2 (in_stop hinv.1 (by rw [A4] at h19; exact h19))
 refine R2 ?_
 refine K1 _ [(0, false), (1, false), (2, false), (4, false), (5, false), (7, false), (8, false), (9, false), (3, true), (6, true), (10, true)] qz8 qz8 rfl Q0 ?_
 refine R2 ?_
 refine M5 rfl rfl rfl (fun ext => r8 rfl A9 E2 (A0 rfl) (A0 rfl) qz3 qz3) ?_
 refine R4 ?_
 refine M5 rfl rfl rfl (fun ext => r9 rfl A9 E2 (A0 rfl) (A0 rfl) qz3 qz3) ?_
 refine N1 rfl rfl rfl (E6 [] rfl Tryz.call81 rfl (AD3 (u.take i) (by rw [G8]; omega)) (A1 (A0 rfl) A3) rfl) (fun a _ => qz2) ?_
 intro x25 ok25
 refine N1 rfl rfl rfl (I9 (by' := 40) 1 rfl A9 Tryz.type68 rfl rfl rfl rfl rfl rfl (A0 rfl) (A0 rfl) rfl qz75) (fun a _ => qz2) ?_
 intro v28_1 _
 refine N1 rfl rfl rfl (I9 (by' := 40) 1 rfl A9 Tryz.type68 rfl rfl rfl rfl rfl rfl (A0 rfl) (A0 rfl) rfl (by simp only [A4, H6, G8, List.length_drop, T0]; omega)) (fun a _ => qz2) ?_
 intro v32_2 _
 refine R4 ?_
 exact F1 [1] v32_2 (trivial) rfl (by first | rfl | (unfold L2; rw [hfin, List.map_append, List.map_cons]; exact congrArg (fun z => [Go.AV.Own.arr _ _ _ z]) (List.append_cons _ _ _))) (H4 rfl (A8 rfl B6))
theorem AI2 (u : List A7) (l : A7) (hu : u.length ≤ 1000000) : D3 Tryz.prog 91 [AV.list 4 (u.map A7.cs), AV.agg l.cs] (AV.list 4 ((L2 u l).map A7.cs)) := L8 (l7In_own u l hu) fun v _ => I5 (List.mem_singleton.2 rfl) F5
theorem BA7 (u : List A7) (k : Nat) (hk : k < u.length) (hu : u.length ≤ 1000000) : F0 Tryz.prog 89 [AV.list 4 (u.map A7.cs), AV.int (k : Int)] [] (fun _ : Value => True) (fun v => [.arr v 68 4 ((u.eraseIdx k).map A7.cs)]) (fun v => AV.is v) := by
 refine E1 Tryz.func89 rfl Tryz.ntmps89 rfl ?_
 refine R2 ?_
 refine A2 rfl (P1 rfl L6) ?_
 refine R2 ?_
 refine K1 _ [(0, false), (1, false), (2, false), (4, false), (5, false), (6, false), (7, false), (3, true), (8, true)] qz8 qz8 rfl Q0 ?_
 refine R2 ?_
 refine M5 rfl rfl rfl (fun ext => r8 rfl A9 E2 (A0 rfl) (A0 rfl) qz3 qz3) ?_
 refine R3 ?_
 refine M5 rfl rfl rfl (fun ext => r9 rfl A9 E2 (A0 rfl) (A0 rfl) qz3 qz3) ?_
 refine N1 rfl rfl rfl (E6 [] rfl Tryz.call81 rfl (AD3 (u.take k) (by rw [G8]; omega)) (A1 (A0 rfl) A3) rfl) (fun a _ => qz2) ?_
 intro x8 ok8
 refine N1 rfl rfl rfl (I9 (by' := 40) 0 rfl A9 Tryz.type68 rfl rfl rfl rfl rfl rfl (A0 rfl) (A0 rfl) rfl (by simp only [A4, G8, List.length_drop]; omega)) (fun a _ => qz2) ?_
 intro v13_1 _
 refine R4 ?_
 exact F1 [0] v13_1 (trivial) rfl (by first | rfl | (rw [← out_eq, List.map_append, show ((k : Int) + 1).toNat = k + 1 by omega]; rfl) | (rw [← out_eq, List.map_append]; rfl)) (H4 rfl (A8 rfl B6))
theorem Aa2 (u : List A7) (k : Nat) (hk : k < u.length) (hu : u.length ≤ 1000000) : D3 Tryz.prog 89 [AV.list 4 (u.map A7.cs), AV.int (k : Int)] (AV.list 4 ((u.eraseIdx k).map A7.cs)) := L8 (BA7 u k hk hu) fun v _ => I5 (List.mem_singleton.2 rfl) F5
theorem Aq0 (n : D5) (a b : Int) (s : Str) (hg : goodNet n = true) (hs : s.length ≤ 1000) : D3 Tryz.prog 93 [AV.agg n.cs, AV.int a, AV.int b, AV.str s] (AV.tup [AV.agg (P3 n a b s).1.cs, AV.bool (P3 n a b s).2]) := by
 have hn := d9 hg
 obtain ⟨q1, q2, q3⟩ := N8 (n := n) qz6
 have hgh := N2 hg
 have h60 := J2 hg
 refine C6 Tryz.func93 rfl Tryz.ntmps93 rfl ?_
 refine R3 ?_
 intro b4
 refine R1 ?_
 intro b8
 refine R6 ?_
 refine A2 rfl (B3 rfl Tryz.call33 rfl (S5 n qz6) (A1 (A0 rfl) A3)) ?_
 refine R4 ?_
 refine J6 rfl (fun hc => B3 rfl Tryz.call64 rfl (n7 _ _ W1) (A1 (B9 rfl hc) (A1 (B9 rfl hc) A3))) ?_
 refine R5 ?_
 refine J6 rfl (fun hc => B3 rfl Tryz.call64 rfl (n7 _ _ W1) (A1 (B9 rfl hc) (A1 (B9 rfl hc) A3))) ?_
 refine R8 ?_
 refine A6 (A0 rfl) ?_ ?_
 ·intro h29
  rw [hg] at h29
  rw [Ad4 Ab4]
  refine R7 ?_
  refine G9 0 1 1 rfl rfl ?_
  refine G9 0 3 4 rfl rfl ?_
  exact O3 rfl D1 (B2 (C3 (ys := _) 0 rfl rfl C2 B1 rfl) (B2 (A8 rfl B6) E3))
 intro h29
 rw [hg] at h29
 obtain ⟨⟨ha, hb⟩, _⟩ := Ad5 (s := s) (a := a) (b := b) (n := n) Ab4
 rw [Ad0 hg, if_pos (show o2 n a b = true from may_go Ab4)]
 obtain ⟨r1, r2⟩ := AF8 hg a b ha hb
 have hfm := AK8 hgh.2.2.2 (m := max (L9 n a - L9 n b) (-(L9 n a - L9 n b))) qz6
 have htr : 1 ≤ q8 n a b ∧ q8 n a b ≤ 41 := (by unfold q8; omega)
 have hls := At2 hg (Q9 n a b s) (show s.length ≤ 1000 from hs)
 have hll := m1 n.Under (Q9 n a b s)
 refine R2 ?_
 refine H1 19 qz8 qz8 rfl ?_
 refine R10 ?_
 refine B8 rfl rfl (B3 rfl Tryz.call108 rfl (AV4 n a b hg ha hb) (A1 (A0 rfl) (A1 (A0 rfl) (A1 (A0 rfl) A3)))) ?_
 refine R3 ?_
 refine B8 rfl rfl (B3 rfl Tryz.call91 rfl (AI2 n.Under (Q9 n a b s) qz6) (A1 (A0 rfl) (A1 (A0 rfl) A3))) ?_
 refine B8 rfl rfl (B3 rfl Tryz.call51 rfl (c6 n (L2 n.Under (Q9 n a b s)) qz6 qz6) (A1 (A0 rfl) (A1 (A0 rfl) A3))) ?_
 refine B8 rfl rfl (B3 rfl Tryz.call90 rfl (AI1 (netU n (L2 n.Under (Q9 n a b s))) hls) (A1 (A0 rfl) A3)) ?_
 refine R7 ?_
 exact O3 rfl D1 (B2 (C3 (ys := _) 0 rfl rfl C2 B1 rfl) (B2 (A8 rfl B6) E3))
theorem AV5 (n : D5) (a b : Int) (s : Str) (hg : goodNet n = true) (hs : s.length ≤ 1000) : D3 Tryz.prog 83 [AV.agg n.cs, AV.int a, AV.int b, AV.str s] (AV.agg (Y9 n a b s).cs) := by
 refine C6 Tryz.func83 rfl Tryz.ntmps83 rfl ?_
 refine R3 ?_
 intro b4
 refine R1 ?_
 intro b8
 refine R8 ?_
 refine A2 rfl (B3 rfl Tryz.call93 rfl (Aq0 n a b s hg hs) (A1 (A0 rfl) (A1 (A0 rfl) (A1 (A0 rfl) (A1 (A0 rfl) A3))))) ?_
 refine R4 ?_
 intro b9
 refine R7 ?_
 refine A6 (A0 rfl) ?_ ?_
 ·intro h19
  rw [show Y9 n a b s = (P3 n a b s).1 from if_pos h19]
  refine R6 ?_
  exact H5 rfl (C3 (ys := _) 1 rfl rfl C2 B1 rfl)
 intro h19
 rw [show Y9 n a b s = n from if_neg (by rw [h19]; exact Bool.false_ne_true)]
 refine R7 ?_
 exact H5 rfl (C3 (ys := _) 1 rfl rfl C2 B1 rfl)
theorem AN8 (n : D5) (i : Int) (hs : n.size ≤ 1048576) : D3 Tryz.prog 88 [AV.agg n.cs, AV.int i] (AV.bool (o5 n i)) := by
  obtain ⟨h1, h2, h3⟩ := N8 hs
  refine C6 Tryz.func88 rfl Tryz.ntmps88 rfl ?_
  refine R3 ?_
  intro b2
  refine R5 ?_
  refine A2 rfl (B3 rfl Tryz.call33 rfl (S5 n hs) (A1 (A0 rfl) A3)) ?_
  refine R5 ?_
  refine U5 rfl (fun hc => AE6 rfl (B9 rfl hc) D4 AE5) ?_
  refine U5 rfl (fun hc => B3 rfl Tryz.call35 rfl (O0 _ _ _) (A1 (B9 rfl hc) (A1 D4 (A1 (B9 rfl hc) A3)))) ?_
  refine R4 ?_
  exact H5 rfl (A8 rfl (by first | rfl | exact congrArg AV.bool (by unfold o5; rw [A4])))
theorem Ai3 (n : D5) (i : Int) (hs : n.size ≤ 1048576) : D3 Tryz.prog 56 [AV.agg n.cs, AV.int i] (AV.tup [AV.agg (Z0 n i).1.cs, AV.bool (Z0 n i).2]) := by
 obtain ⟨q1, q2, q3⟩ := N8 hs
 refine C6 Tryz.func56 rfl Tryz.ntmps56 rfl ?_
 refine R3 ?_
 intro b2
 refine R1 ?_
 intro b4
 refine R7 ?_
 refine A2 rfl (B3 rfl Tryz.call88 rfl (AN8 n i hs) (A1 (A0 rfl) (A1 (A0 rfl) A3))) ?_
 refine R2 ?_
 refine A6 (A0 rfl) ?_ ?_
 ·intro h9
  rw [show Z0 n i = (T3, false) from if_neg AO8]
  refine R7 ?_
  refine G9 0 1 1 rfl rfl ?_
  refine G9 0 3 4 rfl rfl ?_
  exact O3 rfl D1 (B2 (C3 (ys := _) 0 rfl rfl C2 B1 rfl) (B2 (A8 rfl B6) E3))
 intro h9
 have hh : o5 n i = true := AO8
 obtain ⟨hg, hi0, hil, hix⟩ := m2 hh
 have h60 := (J2 hg).1
 have he9 := (j2 hg i.toNat).1
 obtain ⟨k, rfl⟩ : ∃ k : Nat, i = (k : Int) := ⟨i.toNat, by omega⟩
 rw [show Z0 n (k : Int) = (netU n (n.Under.eraseIdx k), true) from if_pos hh]
 refine R2 ?_
 refine H1 6 qz8 qz8 rfl ?_
 refine R4 ?_
 refine B8 rfl rfl (B3 rfl Tryz.call89 rfl (Aa2 n.Under k qz6 qz6) (A1 (A0 rfl) (A1 (A0 rfl) A3))) ?_
 refine B8 rfl rfl (B3 rfl Tryz.call51 rfl (c6 n (n.Under.eraseIdx k) qz6 (by simp at he9; omega)) (A1 (A0 rfl) (A1 (A0 rfl) A3))) ?_
 refine R5 ?_
 exact O3 rfl D1 (B2 (C3 (ys := _) 0 rfl rfl C2 B1 rfl) (B2 (A8 rfl B6) E3))
theorem Aa3 (n : D5) (i : Int) (hs : n.size ≤ 1048576) : D3 Tryz.prog 58 [AV.agg n.cs, AV.int i] (AV.tup [AV.agg (S8 n i).1.cs, AV.bool (S8 n i).2]) := by
 obtain ⟨q1, q2, q3⟩ := N8 hs
 refine C6 Tryz.func58 rfl Tryz.ntmps58 rfl ?_
 refine R3 ?_
 intro b2
 refine R1 ?_
 intro b4
 refine R7 ?_
 refine A2 rfl (B3 rfl Tryz.call88 rfl (AN8 n i hs) (A1 (A0 rfl) (A1 (A0 rfl) A3))) ?_
 refine R2 ?_
 refine A6 (A0 rfl) ?_ ?_
 ·intro h9
  rw [show S8 n i = (T3, false) from if_neg AO8]
  refine R7 ?_
  refine G9 0 1 1 rfl rfl ?_
  refine G9 0 3 4 rfl rfl ?_
  exact O3 rfl D1 (B2 (C3 (ys := _) 0 rfl rfl C2 B1 rfl) (B2 (A8 rfl B6) E3))
 intro h9
 have hh : o5 n i = true := AO8
 obtain ⟨hg, hi0, hil, hix⟩ := m2 hh
 have h60 := (J2 hg).1
 rw [show S8 n i = ifNet n (L2 n.Under (letAt n i)) from if_pos hh]
 have hll := m1 n.Under (letAt n i)
 refine R2 ?_
 refine H1 13 qz8 qz8 rfl ?_
 refine R6 ?_
 refine B8 rfl rfl (H3 rfl A9 E2 (A0 rfl) (A0 rfl) hix qz6) ?_
 refine R1 ?_
 refine B8 rfl rfl (B3 rfl Tryz.call91 rfl (AI2 n.Under (letAt n i) qz6) (A1 (A0 rfl) (A1 (A0 rfl) A3))) ?_
 refine B8 rfl rfl (B3 rfl Tryz.call51 rfl (c6 n (L2 n.Under (letAt n i)) qz6 qz6) (A1 (A0 rfl) (A1 (A0 rfl) A3))) ?_
 refine B8 rfl rfl (B3 rfl Tryz.call90 rfl (AI1 (netU n (L2 n.Under (letAt n i))) (Am1 hg (D9 hix))) (A1 (A0 rfl) A3)) ?_
 refine R7 ?_
 exact O3 rfl D1 (B2 (C3 (ys := _) 0 rfl rfl C2 B1 rfl) (B2 (A8 rfl B6) E3))
theorem Ad9 (n : D5) (i by' : Int) (hs : n.size ≤ 1048576) : D3 Tryz.prog 59 [AV.agg n.cs, AV.int i, AV.int by'] (AV.tup [AV.agg (V5 n i by').1.cs, AV.bool (V5 n i by').2]) := by
 obtain ⟨q1, q2, q3⟩ := N8 hs
 refine C6 Tryz.func59 rfl Tryz.ntmps59 rfl ?_
 refine R3 ?_
 intro b3
 refine R1 ?_
 intro b6
 refine R7 ?_
 refine A2 rfl (B3 rfl Tryz.call88 rfl (AN8 n i hs) (A1 (A0 rfl) (A1 (A0 rfl) A3))) ?_
 refine R3 ?_
 refine J6 rfl (fun hc => B3 rfl Tryz.call35 rfl (O0 _ _ _) (A1 (B9 rfl hc) (A1 D4 (A1 D4 A3)))) ?_
 refine R3 ?_
 refine A6 (A0 rfl) ?_ ?_
 ·intro h17
  rw [show V5 n i by' = (T3, false) from if_neg (by rw [Bool.and_eq_true]; intro k; rw [k.1, k.2] at h17; cases h17)]
  refine R7 ?_
  refine G9 0 1 1 rfl rfl ?_
  refine G9 0 3 4 rfl rfl ?_
  exact O3 rfl D1 (B2 (C3 (ys := _) 0 rfl rfl C2 B1 rfl) (B2 (A8 rfl B6) E3))
 intro h17
 have hh : (o5 n i && within by' 1 50) = true := (by simpa using h17)
 rw [show V5 n i by' = ifNet n (L2 (n.Under.eraseIdx i.toNat) (w8 (letAt n i) by')) from if_pos hh]
 rw [Bool.and_eq_true] at hh
 obtain ⟨hg, hi0, hil, hix⟩ := m2 hh.1
 have h60 := (J2 hg).1
 obtain ⟨k, rfl⟩ : ∃ k : Nat, i = (k : Int) := ⟨i.toNat, by omega⟩
 have hby : 1 ≤ by' ∧ by' ≤ 50 := K4 hh.2
 have hdu := Z4 (J2 hg |>.2.1 _ (D9 hix))
 have heg := (j2 hg k).1
 have hll := m1 (n.Under.eraseIdx k) (w8 (letAt n k) by')
 refine R6 ?_
 refine A2 rfl (H3 rfl A9 E2 (A0 rfl) (A0 rfl) hix qz6) ?_
 refine R2 ?_
 intro b8
 refine R12 ?_
 refine H1 11 qz8 qz8 rfl ?_
 refine R4 ?_
 refine B8 rfl rfl (B3 rfl Tryz.call89 rfl (Aa2 n.Under k qz6 qz6) (A1 (A0 rfl) (A1 (A0 rfl) A3))) ?_
 refine R1 ?_
 refine B8 rfl rfl (B3 rfl Tryz.call91 rfl (AI2 (n.Under.eraseIdx k) (w8 (letAt n k) by') qz6) (A1 (A0 rfl) (A1 (A0 rfl) A3))) ?_
 refine B8 rfl rfl (B3 rfl Tryz.call51 rfl (c6 n (L2 (n.Under.eraseIdx k) (w8 (letAt n k) by')) qz6 qz6) (A1 (A0 rfl) (A1 (A0 rfl) A3))) ?_
 refine B8 rfl rfl (B3 rfl Tryz.call90 rfl (AI1 (netU n (L2 (n.Under.eraseIdx k) (w8 (letAt n k) by'))) (Am2 hg k (D9 hix))) (A1 (A0 rfl) A3)) ?_
 refine R7 ?_
 exact O3 rfl D1 (B2 (C3 (ys := _) 1 rfl rfl C2 B1 rfl) (B2 (A8 rfl B6) E3))
theorem Am6 (n : D5) (hg : goodNet n = true) : D3 Tryz.prog 86 [AV.agg n.cs] (AV.tup [AV.agg (U9 n).cs, AV.list 4 ((S0 n).map A7.cs), AV.bool true]) := by
 have hn := d9 hg
 obtain ⟨q1, q2, q3⟩ := N8 (n := n) qz6
 refine C6 Tryz.func86 rfl Tryz.ntmps86 rfl ?_
 refine R3 ?_
 intro b1
 refine R1 ?_
 intro b2
 refine A2 rfl (P1 rfl (Ac4 (sz := 4))) ?_
 refine R6 ?_
 refine A2 rfl (B3 rfl Tryz.call33 rfl (S5 n qz6) (A1 (A0 rfl) A3)) ?_
 refine R2 ?_
 refine A6 (A0 rfl) ?_ ?_
 ·intro h8
  rw [hg] at h8; cases h8
 intro h8
 refine R7 ?_
 refine J0 [(1, _), (2, _), (3, _), (4, _)] _ (fun (i : Nat) => i ≤ n.Under.length ∧ (∀ x ∈ n.Under.take i, decide (x.Due ≤ n.Now) = true)) (fun (i : Nat) => []) (fun (i : Nat) => [(5, AV.int i)]) (fun (i : Nat) => n.Under.length - i) (0) ?_ (K6 ⟨rfl, rfl, rfl, rfl, rfl, trivial⟩) ?_
 ·exact ⟨Nat.zero_le _, fun x hx => by cases hx⟩
 intro i hinv
 refine R12 ?_
 refine N9 rfl (j7 rfl rfl rfl) (fun hc => w_idx rfl A9 E2 (B9 rfl hc) (B9 rfl hc) (by have h9 := of_decide_eq_true hc; omega) (by have h9 := of_decide_eq_true hc; rw [A4] at h9; exact Ag9 qz6)) ?_
 refine R7 ?_
 refine A6 (A0 rfl) ?_ ?_
 ·intro h26
  rw [Bool.and_eq_true, decide_eq_true_eq, decide_eq_true_eq] at h26
  have hlt : i < n.Under.length := (by have h9 := h26.1; rw [A4] at h9; omega)
  have hx := AG0 hlt
  have hdx : decide ((letU n.Under i).Due ≤ n.Now) = true := decide_eq_true h26.2
  refine R7 ?_
  refine AP4 ?_
  refine L0 i (i + 1) ?_ ?_ (K6 ⟨rfl, rfl, rfl, rfl, rfl, trivial⟩)
  ·exact ⟨by omega, Ad8 hinv.2 hx hdx⟩
  omega
 intro h26
 have hfin : AO4 n = i := Aa1 hinv.1 hinv.2 (due_stop hinv.1 (by rw [A4] at h26; exact h26))
 have hE1 : U9 n = netU n (n.Under.drop i) := (by unfold U9; rw [hfin])
 have hE2 : S0 n = n.Under.take i := (by unfold S0; rw [hfin])
 rw [hE1, hE2]
 refine R2 ?_
 refine H1 11 qz8 qz8 rfl ?_
 refine R4 ?_
 refine B8 rfl rfl (r9 rfl A9 E2 (A0 rfl) (A0 rfl) qz3 qz3) ?_
 refine B8 rfl rfl (B3 rfl Tryz.call51 rfl (c6 n (n.Under.drop i) qz6 (by rw [List.length_drop]; omega)) (A1 (A0 rfl) (A1 (A0 rfl) A3))) ?_
 refine R3 ?_
 refine B8 rfl rfl (r8 rfl A9 E2 (A0 rfl) (A0 rfl) qz3 qz3) ?_
 refine B8 rfl rfl (B3 rfl Tryz.call81 rfl (AV3 (n.Under.take i) (by rw [G8]; omega)) (A1 (A0 rfl) A3)) ?_
 refine R6 ?_
 exact O3 rfl D1 (B2 (C3 (ys := _) 0 rfl rfl C2 B1 rfl) (B2 (A8 rfl B6) (B2 (A8 rfl B6) E3)))
theorem Ai4 (n : D5) (hs : n.size ≤ 1048576) : D3 Tryz.prog 85 [AV.agg n.cs] (AV.tup [AV.agg (tickN n).1.cs, AV.bool (tickN n).2]) := by
 obtain ⟨q1, q2, q3⟩ := N8 hs
 refine C6 Tryz.func85 rfl Tryz.ntmps85 rfl ?_
 refine R3 ?_
 intro b1
 refine R1 ?_
 intro b2
 refine R6 ?_
 refine A2 rfl (B3 rfl Tryz.call33 rfl (S5 n hs) (A1 (A0 rfl) A3)) ?_
 refine R2 ?_
 refine A6 (A0 rfl) ?_ ?_
 ·intro h7
  rw [show tickN n = (T3, false) from if_neg (by intro k; rw [Bool.and_eq_true] at k; rw [k.1] at h7; cases h7)]
  refine R7 ?_
  refine G9 0 1 1 rfl rfl ?_
  refine G9 0 3 4 rfl rfl ?_
  exact O3 rfl D1 (B2 (C3 (ys := _) 0 rfl rfl C2 B1 rfl) (B2 (A8 rfl B6) E3))
 intro h7
 have hg : goodNet n = true := (by simpa using h7)
 rw [← At1 hg]
 have hnw := (N2 hg).1
 have hns := d9 hg
 refine R6 ?_
 refine A2 rfl (B3 rfl Tryz.call51 rfl ((show D3 Tryz.prog 51 [AV.agg n.cs, AV.list 4 (n.Under.map A7.cs)] (AV.agg n.cs) from c6 n n.Under qz6 qz6)) (A1 (A0 rfl) (A1 (A0 rfl) A3))) ?_
 refine R1 ?_
 intro b4
 refine R13 ?_
 refine A2 rfl (B3 rfl Tryz.call90 rfl (AI1 { n with Now := n.Now + 1 } (by show n.Homes.length + sizeL A7.size n.Under ≤ _; exact hs)) (A1 (A0 rfl) A3)) ?_
 refine R6 ?_
 exact O3 rfl D1 (B2 (C3 (ys := _) 1 rfl rfl C2 B1 rfl) (B2 (A8 rfl B6) E3))
end Go.Proofs.YtkibefcceekmnaaGreatDoor
namespace Go.M
open Go.AV
theorem Aa4 {l : List Int} {n : Int} {i : Nat} {x y : Int} (hx : l[i]? = some x) (hy : l[i - 1]? = some y) (hg : within x 0 (n - 1) = true ∧ (0 < i → ltI y x = true)) : ((l.drop i).all (fun x => within x 0 (n - 1)) && adj ltI (l.drop (i - 1))) = ((l.drop (i + 1)).all (fun x => within x 0 (n - 1)) && adj ltI (l.drop (i + 1 - 1))) := by
  rw [AN2 hx hg.1, Al0 hx hy hg.2]
theorem Aa5 {l : List Int} {n : Int} {i : Nat} {x y : Int} (hx : l[i]? = some x) (hy : l[i - 1]? = some y) (hg : within x 0 (n - 1) = true → 0 < i ∧ ltI y x = false) : ((l.drop i).all (fun x => within x 0 (n - 1)) && adj ltI (l.drop (i - 1))) = false := by
  cases h : within x 0 (n - 1) with
  | false => rw [AN3 (p := fun x => within x 0 (n - 1)) hx h]; rfl
  | true => rw [Al1 hx hy (hg h).1 (hg h).2, Bool.and_false]
theorem Ah0 {l : List Int} {n : Int} {i : Nat} (h : l.length ≤ i) : ((l.drop i).all (fun x => within x 0 (n - 1)) && adj ltI (l.drop (i - 1))) = true := by
  rw [AT3 h, As5 h]; rfl
theorem Am7 {i : Nat} {x y n : Int} (h : (!within x 0 (n - 1) || (decide ((i : Int) > 0) && decide (x ≤ y))) = true) : within x 0 (n - 1) = true → 0 < i ∧ ltI y x = false := fun hl => by
  rw [hl] at h
  simp only [Bool.not_true, Bool.false_or, Bool.and_eq_true, decide_eq_true_eq] at h
  exact ⟨by omega, by unfold ltI; exact decide_eq_false qz6⟩
theorem Am8 {i : Nat} {x y n : Int} (h : (!within x 0 (n - 1) || (decide ((i : Int) > 0) && decide (x ≤ y))) = false) : within x 0 (n - 1) = true ∧ (0 < i → ltI y x = true) := by
  simp only [Bool.or_eq_false_iff, Bool.not_eq_false', Bool.and_eq_false_iff, decide_eq_false_iff_not] at h
  exact ⟨h.1, fun h9 => by unfold ltI; exact decide_eq_true qz6⟩
theorem AI3 {n : Int} {l : List A5} {i : Nat} {x : A5} (h : l[i]? = some x) : votersOk n (l.drop i) i = (goodVoter x (i : Int) n && votersOk n (l.drop (i + 1)) (i + 1)) := by
  have hlt := (List.getElem?_eq_some_iff.1 h).1
  rw [List.drop_eq_getElem_cons hlt, (List.getElem?_eq_some_iff.1 h).2]; rfl
theorem At3 {p : TPoll} (h : (((!goodNet p.Net || !(((p.Net.Homes.length : Int) == 3) || ((p.Net.Homes.length : Int) == 5))) || ((p.Voters.length : Int) != (p.Net.Homes.length : Int))) || decide ((p.Won.length : Int) > 60)) = true) : goodPoll p = false := by
  unfold goodPoll
  simp only [Bool.or_eq_true, Bool.not_eq_true', bne_iff_ne, decide_eq_true_eq] at h
  rcases h with ((h | h) | h) | h
  · rw [h]; rfl
  · rw [h]; simp
  · rw [beq_eq_false_iff_ne.2 h]; simp
  · rw [decide_eq_false (show ¬ (p.Won.length : Int) ≤ 60 by omega)]; simp
theorem At4 {p : TPoll} (h : (((!goodNet p.Net || !(((p.Net.Homes.length : Int) == 3) || ((p.Net.Homes.length : Int) == 5))) || ((p.Voters.length : Int) != (p.Net.Homes.length : Int))) || decide ((p.Won.length : Int) > 60)) = false) : goodPoll p = (votersOk (p.Net.Homes.length : Int) p.Voters 0 && p.Won.all (V9 (p.Net.Homes.length : Int))) ∧ goodNet p.Net = true ∧ p.Voters.length ≤ 5 ∧ p.Won.length ≤ 60 ∧ p.Net.Homes.length ≤ 5 := by
  simp only [Bool.or_eq_false_iff, Bool.not_eq_false', bne_eq_false_iff_eq, decide_eq_false_iff_not] at h
  have hh := (N2 h.1.1.1).2.1
  refine ⟨?_, h.1.1.1, by omega, by omega, hh.2⟩
  unfold goodPoll
  rw [h.1.1.1, h.1.1.2, h.1.2, decide_eq_true (show (p.Won.length : Int) ≤ 60 by omega)]
  simp
theorem BA8 {x : A5} {v n : Int} (h : (((!within x.Term 0 200 || !within x.For (-1) (n - 1)) || !T4 x.Yes n) || (!(x.Up && (x.For == v)) && decide ((x.Yes.length : Int) > 0))) = true) : goodVoter x v n = false := by
  unfold goodVoter AJ7
  simp only [Bool.or_eq_true, Bool.not_eq_true', Bool.and_eq_true, decide_eq_true_eq] at h
  rcases h with ((h | h) | h) | ⟨h, k⟩
  · rw [h]; rfl
  · rw [h]; simp
  · rw [h]; simp
  · rw [h, beq_eq_false_iff_ne.2 (show (x.Yes.length : Int) ≠ 0 by omega)]; simp
theorem BA9 {x : A5} {v n : Int} (h : (((!within x.Term 0 200 || !within x.For (-1) (n - 1)) || !T4 x.Yes n) || (!(x.Up && (x.For == v)) && decide ((x.Yes.length : Int) > 0))) = false) : goodVoter x v n = (!x.Leads || (AJ7 x v && decide (n < 2 * (x.Yes.length : Int)))) := by
  simp only [Bool.or_eq_false_iff, Bool.not_eq_false'] at h
  unfold goodVoter
  rw [h.1.1.1, h.1.1.2, h.1.2]
  have h9 : (AJ7 x v || ((x.Yes.length : Int) == 0)) = true := by
    have h8 := h.2
    unfold AJ7
    rw [Bool.and_eq_false_iff, Bool.not_eq_false', decide_eq_false_iff_not] at h8
    rcases h8 with h8 | h8
    · rw [h8]; rfl
    · rw [show ((x.Yes.length : Int) == 0) = true from beq_iff_eq.2 qz6, Bool.or_true]
  rw [h9]; rfl
theorem Am9 {n : Int} : ((n != 3) && (n != 5)) = !((n == 3) || (n == 5)) := by rw [Bool.not_or]; rfl
structure PSz (p : TPoll) : Prop where
  net : p.Net.size ≤ 1000000
  voters : p.Voters.length ≤ 1000000 ∧ ∀ x ∈ p.Voters, x.Yes.length ≤ 1000000
  won : p.Won.length ≤ 1000000
end Go.M
namespace Go.Proofs.YtkibefcceekmnaaGreatDoor
open Go Go.AV Go.M
attribute [local irreducible] OpW OpA OpS AWP D3 P2 F0 OpE RetOk K2 M3 Le Ev I4 Q8 Int.tmod Int.tdiv IntKind.wrap
theorem BB0 (n : Nat) {xs : List AV} (R : D6) (v : Value) (h : (AV.eptr xs).den R v) : (AV.eptr (xs.take n)).den R v := by
  obtain ⟨ad, h1, hc⟩ := h
  refine ⟨ad, h1, fun j x hx => hc j x ?_⟩
  rw [List.getElem?_take] at hx
  split at hx
  · exact hx
  · cases hx
theorem An0 (l : List Int) (n : Int) (hn : 0 ≤ n ∧ n ≤ 1000000) : D3 Tryz.prog 39 [ints l, AV.int n] (AV.bool (T4 l n)) := by
 refine C6 Tryz.func39 rfl Tryz.ntmps39 rfl ?_
 refine n3 (t := 0) rfl fun hl => ?_
 try simp only [A4] at hl
 refine R12 ?_
 refine J0 [(0, _), (1, _), (7, _), (8, _)] _ (fun (i : Nat) => i ≤ l.length ∧ T4 l n = ((l.drop i).all (fun x => within x 0 (n - 1)) && adj ltI (l.drop (i - 1)))) (fun (i : Nat) => []) (fun (i : Nat) => [(9, AV.int i)]) (fun (i : Nat) => l.length - i) (0) ?_ (K6 ⟨rfl, rfl, rfl, rfl, rfl, trivial⟩) ?_
 ·exact ⟨Nat.zero_le _, rfl⟩
 intro i hinv
 refine R5 ?_
 refine A6 (A0 rfl) ?_ ?_
 ·intro h10
  have k10 := of_decide_eq_true h10; try simp only [A4] at k10
  have hlt : i < l.length := by omega
  obtain ⟨x, hx⟩ := F8 hlt
  obtain ⟨y, hy⟩ := F8 (show i - 1 < l.length by omega)
  refine R6 ?_
  refine A2 rfl (H3 rfl B5 D0 (A0 rfl) (A0 rfl) hx qz3) ?_
  refine R9 ?_
  refine A2 rfl (B3 rfl Tryz.call22 rfl (O7 _ _ _) (A1 (A0 rfl) (A1 D4 (A1 (A0 rfl) A3)))) ?_
  refine R9 ?_
  refine o6 rfl rfl (r3 rfl rfl rfl) (fun hc => H3 rfl B5 D0 (B9 rfl hc) (B9 rfl hc) hy AJ3) ?_
  refine R5 ?_
  refine A6 (A0 rfl) ?_ ?_
  ·intro h31
   rw [hinv.2, Aa5 hx hy (Am7 h31)]
   refine R5 ?_
   exact H5 rfl (A8 rfl B6)
  intro h31
  refine R5 ?_
  refine L0 i (i + 1) ?_ ?_ (K6 ⟨rfl, rfl, rfl, rfl, rfl, trivial⟩)
  ·exact ⟨by omega, hinv.2.trans (Aa4 hx hy (Am8 h31))⟩
  omega
 intro h10
 have k10 := of_decide_eq_false h10; try simp only [A4] at k10
 rw [hinv.2, Ah0 qz6]
 refine R6 ?_
 exact H5 rfl (A8 rfl B6)
theorem Ai5 (l : List Int) (n : Int) (hn : 0 ≤ n ∧ n ≤ 1000000) : D3 Tryz.prog 65 [ints l, AV.int 0, AV.int (n - 1)] (AV.bool (T4 l n)) := by
 refine C6 Tryz.func65 rfl Tryz.ntmps65 rfl ?_
 refine n3 (t := 0) rfl fun hl => ?_
 try simp only [A4] at hl
 refine R12 ?_
 refine J0 [(0, _), (1, _), (2, _), (9, _), (10, _)] _ (fun (i : Nat) => i ≤ l.length ∧ T4 l n = ((l.drop i).all (fun x => within x 0 (n - 1)) && adj ltI (l.drop (i - 1)))) (fun (i : Nat) => []) (fun (i : Nat) => [(11, AV.int i)]) (fun (i : Nat) => l.length - i) (0) ?_ (K6 ⟨rfl, rfl, rfl, rfl, rfl, rfl, trivial⟩) ?_
 ·exact ⟨Nat.zero_le _, rfl⟩
 intro i hinv
 refine R5 ?_
 refine A6 (A0 rfl) ?_ ?_
 ·intro h12
  have k12 := of_decide_eq_true h12; try simp only [A4] at k12
  have hlt : i < l.length := by omega
  obtain ⟨x, hx⟩ := F8 hlt
  obtain ⟨y, hy⟩ := F8 (show i - 1 < l.length by omega)
  refine R6 ?_
  refine A2 rfl (H3 rfl B5 D0 (A0 rfl) (A0 rfl) hx qz3) ?_
  refine R9 ?_
  refine A2 rfl (B3 rfl Tryz.call35 rfl (O0 _ _ _) (A1 (A0 rfl) (A1 (A0 rfl) (A1 (A0 rfl) A3)))) ?_
  refine R8 ?_
  refine o6 rfl rfl (r3 rfl rfl rfl) (fun hc => H3 rfl B5 D0 (B9 rfl hc) (B9 rfl hc) hy AJ3) ?_
  refine R6 ?_
  refine A6 (A0 rfl) ?_ ?_
  ·intro h33
   rw [hinv.2, Aa5 hx hy (Am7 h33)]
   refine R5 ?_
   exact H5 rfl (A8 rfl B6)
  intro h33
  refine R5 ?_
  refine L0 i (i + 1) ?_ ?_ (K6 ⟨rfl, rfl, rfl, rfl, rfl, rfl, trivial⟩)
  ·exact ⟨by omega, hinv.2.trans (Aa4 hx hy (Am8 h33))⟩
  omega
 intro h12
 have k12 := of_decide_eq_false h12; try simp only [A4] at k12
 rw [hinv.2, Ah0 qz6]
 refine R6 ?_
 exact H5 rfl (A8 rfl B6)
theorem An1 (x : A5) (v n : Int) (hn : 0 ≤ n ∧ n ≤ 1000000) (hy : x.Yes.length ≤ 1000000) : D3 Tryz.prog 19 [AV.agg x.cs, AV.int v, AV.int n] (AV.bool (goodVoter x v n)) := by
  refine C6 Tryz.func19 rfl Tryz.ntmps19 rfl ?_
  refine R3 ?_
  intro b3
  refine R18 ?_
  refine A2 rfl (B3 rfl Tryz.call22 rfl (O7 _ _ _) (A1 (A0 rfl) (A1 D4 (A1 D4 A3)))) ?_
  refine R5 ?_
  refine U5 rfl (fun hc => B3 rfl Tryz.call22 rfl (O7 _ _ _) (A1 (B9 rfl hc) (A1 D4 (A1 (B9 rfl hc) A3)))) ?_
  refine R5 ?_
  refine U5 rfl (fun hc => B3 rfl Tryz.call39 rfl (An0 x.Yes n hn) (A1 (B9 rfl hc) (A1 (B9 rfl hc) A3))) ?_
  refine R20 ?_
  refine o6 rfl rfl (r3 rfl rfl rfl) (fun hc => u2 rfl D4 (B9 rfl hc) AE5) ?_
  refine R8 ?_
  exact H5 rfl (A8 rfl (by first | rfl | exact congrArg AV.bool (by unfold goodVoter AJ7; rw [A4])))
theorem An2 (x : A5) (v n : Int) (hn : 0 ≤ n ∧ n ≤ 1000000) (hy : x.Yes.length ≤ 1000000) : D3 Tryz.prog 34 [AV.agg x.cs, AV.int v, AV.int n] (AV.bool (goodVoter x v n)) := by
 refine C6 Tryz.func34 rfl Tryz.ntmps34 rfl ?_
 refine R3 ?_
 intro b3
 refine R19 ?_
 refine A2 rfl (B3 rfl Tryz.call35 rfl (O0 _ _ _) (A1 (A0 rfl) (A1 D4 (A1 D4 A3)))) ?_
 refine R6 ?_
 refine J6 rfl (fun hc => B3 rfl Tryz.call35 rfl (O0 _ _ _) (A1 (B9 rfl hc) (A1 D4 (A1 (B9 rfl hc) A3)))) ?_
 refine R7 ?_
 refine J6 rfl (fun hc => B3 rfl Tryz.call65 rfl (Ai5 x.Yes n hn) (A1 (B9 rfl hc) (A1 D4 (A1 (B9 rfl hc) A3)))) ?_
 refine R13 ?_
 refine A6 (A0 rfl) ?_ ?_
 ·intro h45
  rw [A4] at h45
  rw [BA8 h45]
  refine R5 ?_
  exact H5 rfl (A8 rfl (by first | rfl | exact congrArg AV.bool (by unfold AJ7; rw [A4])))
 intro h45
 rw [A4] at h45
 rw [BA9 h45]
 refine R12 ?_
 refine o6 rfl rfl (r3 rfl rfl rfl) (fun hc => u2 rfl D4 (B9 rfl hc) AE5) ?_
 refine R7 ?_
 exact H5 rfl (A8 rfl (by first | rfl | exact congrArg AV.bool (by unfold AJ7; rw [A4])))
theorem Ae0 (w : G3) (p : TPoll) (hs : p.Net.size ≤ 1048576) : D3 Tryz.prog 21 [AV.agg w.cs, AV.eptr p.cs] (AV.bool (!V9 (p.Net.Homes.length : Int) w)) := by
  refine C6 Tryz.func21 rfl Tryz.ntmps21 rfl ?_
  refine R3 ?_
  intro b2
  refine R6 ?_
  refine A2 rfl (B3 rfl Tryz.call22 rfl (O7 _ _ _) (A1 (A0 rfl) (A1 D4 (A1 D4 A3)))) ?_
  refine R3 ?_
  refine J6 rfl (fun hc => id (Ar3 rfl (AB5 (B9 rfl hc) (BB0 4)) C2 B1)) ?_
  refine R2 ?_
  refine J6 rfl (fun hc => B3 rfl Tryz.call23 rfl (j8 p.Net w.Who hs) (A1 (B9 rfl hc) (A1 (B9 rfl hc) A3))) ?_
  refine R5 ?_
  exact H5 rfl (A8 rfl (by exact congrArg AV.bool (by unfold V9 H2; rw [Bool.not_and])))
theorem Aq1 (n : Int) : D3 Tryz.prog 18 [AV.int n] (AV.bool ((n == 3) || (n == 5))) := by
  refine C6 Tryz.func18 rfl Tryz.ntmps18 rfl ?_
  refine R15 ?_
  exact H5 rfl (A8 rfl W8)
theorem p9 (p : TPoll) (hs : PSz p) : D3 Tryz.prog 7 [AV.agg p.cs] (AV.bool (goodPoll p)) := by
 have hns : p.Net.size ≤ 1048576 := Nat.le_trans hs.net D1
 obtain ⟨q1, q2, q3⟩ := N8 hns
 have hv := hs.voters.1
 have hw := hs.won
 refine C6 Tryz.func7 rfl Tryz.ntmps7 rfl ?_
 refine R3 ?_
 intro b1
 refine R14 ?_
 refine A2 rfl (O4 _ 0 rfl (A0 rfl) rfl C2 B1 rfl rfl) ?_
 refine A2 rfl (B3 rfl Tryz.call17 rfl (v6 p.Net hns) (A1 (A0 rfl) A3)) ?_
 refine R3 ?_
 refine J6 rfl (fun hc => B3 rfl Tryz.call18 rfl (Aq1 _) (A1 (B9 rfl hc) A3)) ?_
 refine R16 ?_
 refine A6 (A0 rfl) ?_ ?_
 ·intro h31
  simp only [A4] at h31
  rw [At3 h31]
  refine R5 ?_
  exact H5 rfl (A8 rfl qz44)
 intro h31
 simp only [A4] at h31
 obtain ⟨hgo, _, h5, h60, hh5⟩ := At4 h31
 rw [hgo]
 refine R10 ?_
 refine J0 [(1, _), (3, _), (33, _), (34, _)] _ (fun (i : Nat) => i ≤ p.Voters.length ∧ votersOk (p.Net.Homes.length : Int) p.Voters 0 = votersOk (p.Net.Homes.length : Int) (p.Voters.drop i) i) (fun (i : Nat) => []) (fun (i : Nat) => [(35, AV.int i)]) (fun (i : Nat) => p.Voters.length - i) (0) ?_ (K6 ⟨rfl, rfl, rfl, rfl, rfl, trivial⟩) ?_
 ·exact ⟨Nat.zero_le _, rfl⟩
 intro i hinv
 refine R5 ?_
 refine A6 (A0 rfl) ?_ ?_
 ·intro h36
  have k36 := of_decide_eq_true h36; try simp only [A4] at k36
  have hlt : i < p.Voters.length := by omega
  obtain ⟨x, hx⟩ := F8 hlt
  have hxy := hs.voters.2 x (D9 hx)
  refine R6 ?_
  refine A2 rfl (H3 rfl B0 B4 (A0 rfl) (A0 rfl) hx qz3) ?_
  refine R2 ?_
  intro b5
  refine R8 ?_
  refine A2 rfl (B3 rfl Tryz.call19 rfl (An1 x i ((p.Net.Homes.map fun z => [AV.int z]).length : Int) AE5 hxy) (A1 (A0 rfl) (A1 (A0 rfl) (A1 (A0 rfl) A3)))) ?_
  refine R2 ?_
  refine A6 (A0 rfl) ?_ ?_
  ·intro h44
   simp only [A4] at h44
   have hfin : votersOk (p.Net.Homes.length : Int) p.Voters 0 = false := (by rw [hinv.2, AI3 hx, show goodVoter x (i : Int) (p.Net.Homes.length : Int) = false by simpa using h44]; rfl)
   rw [hfin]
   refine R5 ?_
   exact H5 rfl (A8 rfl qz44)
  intro h44
  refine R5 ?_
  refine L0 i (i + 1) ?_ ?_ (AS5 1 ⟨rfl, rfl, rfl, rfl, rfl, trivial⟩)
  ·exact ⟨by omega, by rw [hinv.2, AI3 hx]; simp only [A4] at h44; rw [show goodVoter x (i : Int) (p.Net.Homes.length : Int) = true by simpa using h44]; rfl⟩
  omega
 intro h36
 have k36 := of_decide_eq_false h36; try simp only [A4] at k36
 have hfin : votersOk (p.Net.Homes.length : Int) p.Voters 0 = true := (by rw [hinv.2, List.drop_eq_nil_of_le qz6]; rfl)
 rw [hfin]
 refine R5 ?_
 refine A2 rfl (w_clo rfl rfl (A1 (A0 rfl) A3)) ?_
 refine A2 rfl (V7 rfl Tryz.call20 rfl (AN5 _ _ _ Ab9) (M4 _) (F6 (evb (A0 rfl)) (F6 (AM3 (AW9 0 (A0 rfl) rfl) (AW7 Tryz.call21 (fun w (_ : True) => Ae0 w _ W1))) N3))) ?_
 refine R4 ?_
 exact H5 rfl (A8 rfl qz44)
theorem AB2 (p : TPoll) (hs : PSz p) : D3 Tryz.prog 16 [AV.agg p.cs] (AV.bool (goodPoll p)) := by
 have hns : p.Net.size ≤ 1048576 := Nat.le_trans hs.net D1
 obtain ⟨q1, q2, q3⟩ := N8 hns
 have hv := hs.voters.1
 have hw := hs.won
 refine C6 Tryz.func16 rfl Tryz.ntmps16 rfl ?_
 refine R3 ?_
 intro b1
 refine R14 ?_
 refine A2 rfl (O4 _ 0 rfl (A0 rfl) rfl C2 B1 rfl rfl) ?_
 refine A2 rfl (B3 rfl Tryz.call33 rfl (S5 p.Net hns) (A1 (A0 rfl) A3)) ?_
 refine R23 ?_
 refine A6 (A0 rfl) ?_ ?_
 ·intro h34
  simp only [A4, Am9] at h34
  rw [At3 h34]
  refine R5 ?_
  exact H5 rfl (A8 rfl B6)
 intro h34
 simp only [A4, Am9] at h34
 obtain ⟨hgo, _, h5, h60, hh5⟩ := At4 h34
 rw [hgo]
 have hvl : p.Voters.length = p.Net.Homes.length := (by simp only [Bool.or_eq_false_iff, bne_eq_false_iff_eq] at h34; omega)
 refine R7 ?_
 refine J0 [(1, _), (3, _)] _ (fun (i : Nat) => i ≤ p.Voters.length ∧ votersOk (p.Net.Homes.length : Int) p.Voters 0 = votersOk (p.Net.Homes.length : Int) (p.Voters.drop i) i) (fun (i : Nat) => []) (fun (i : Nat) => [(4, AV.int i)]) (fun (i : Nat) => p.Voters.length - i) (0) ?_ (K6 ⟨rfl, rfl, rfl, trivial⟩) ?_
 ·exact ⟨Nat.zero_le _, rfl⟩
 intro i hinv
 refine R7 ?_
 refine A6 (A0 rfl) ?_ ?_
 ·intro h37
  have k37 := of_decide_eq_true h37; try simp only [A4] at k37
  have hlt : i < p.Voters.length := (by simp only [A4, decide_eq_true_eq] at h37; omega)
  obtain ⟨x, hx⟩ := F8 hlt
  have hxy := hs.voters.2 x (D9 hx)
  refine R8 ?_
  refine A2 rfl (H3 rfl B0 B4 (A0 rfl) (A0 rfl) hx qz3) ?_
  refine R3 ?_
  refine A2 rfl (B3 rfl Tryz.call34 rfl (An2 x i ((p.Net.Homes.map fun z => [AV.int z]).length : Int) AE5 hxy) (A1 (A0 rfl) (A1 (A0 rfl) (A1 (A0 rfl) A3)))) ?_
  refine R2 ?_
  refine A6 (A0 rfl) ?_ ?_
  ·intro h48
   simp only [A4] at h48
   have hfin : votersOk (p.Net.Homes.length : Int) p.Voters 0 = false := (by rw [hinv.2, AI3 hx, show goodVoter x (i : Int) (p.Net.Homes.length : Int) = false by simpa using h48]; rfl)
   rw [hfin]
   refine R5 ?_
   exact H5 rfl (A8 rfl B6)
  intro h48
  refine R6 ?_
  refine L0 i (i + 1) ?_ ?_ (K6 ⟨rfl, rfl, rfl, trivial⟩)
  ·exact ⟨by omega, by rw [hinv.2, AI3 hx]; simp only [A4] at h48; rw [show goodVoter x (i : Int) (p.Net.Homes.length : Int) = true by simpa using h48]; rfl⟩
  omega
 intro h37
 have k37 := of_decide_eq_false h37; try simp only [A4] at k37
 have hfin : votersOk (p.Net.Homes.length : Int) p.Voters 0 = true := (by rw [hinv.2, List.drop_eq_nil_of_le (by simp only [A4, decide_eq_false_iff_not] at h37; omega)]; rfl)
 rw [hfin]
 refine R7 ?_
 refine J0 [(1, _), (3, _)] _ (fun (j : Nat) => j ≤ p.Won.length ∧ p.Won.all (V9 (p.Net.Homes.length : Int)) = (p.Won.drop j).all (V9 (p.Net.Homes.length : Int))) (fun (j : Nat) => []) (fun (j : Nat) => [(5, AV.int j)]) (fun (j : Nat) => p.Won.length - j) (0) ?_ (K6 ⟨rfl, rfl, rfl, trivial⟩) ?_
 ·exact ⟨Nat.zero_le _, rfl⟩
 intro j hinv
 refine R9 ?_
 refine A6 (A0 rfl) ?_ ?_
 ·intro h53
  have k53 := of_decide_eq_true h53; try simp only [A4] at k53
  have hlt2 : j < p.Won.length := (by simp only [A4, decide_eq_true_eq] at h53; omega)
  obtain ⟨z, hz⟩ := F8 hlt2
  refine R8 ?_
  refine A2 rfl (H3 rfl C5 J5 (A0 rfl) (A0 rfl) hz qz3) ?_
  refine R2 ?_
  refine A2 rfl (B3 rfl Tryz.call35 rfl (O0 _ _ _) (A1 (A0 rfl) (A1 D4 (A1 D4 A3)))) ?_
  refine R5 ?_
  refine J6 rfl (fun hc => H3 rfl C5 J5 (B9 rfl hc) (B9 rfl hc) hz AJ3) ?_
  refine R3 ?_
  refine J6 rfl (fun hc => AE6 rfl (B9 rfl hc) D4 AE5) ?_
  refine J6 rfl (fun hc => B3 rfl Tryz.call35 rfl (O0 _ _ _) (A1 (B9 rfl hc) (A1 D4 (A1 (B9 rfl hc) A3)))) ?_
  refine R3 ?_
  refine A6 (A0 rfl) ?_ ?_
  ·intro h75
   simp only [A4] at h75
   have hzg : V9 (p.Net.Homes.length : Int) z = false := (by (have h9 : (!V9 (p.Net.Homes.length : Int) z) = true := by (unfold V9; rw [Bool.not_and]; exact h75)); simpa using h9)
   rw [hinv.2, AN3 hz hzg]
   refine R5 ?_
   exact H5 rfl (A8 rfl B6)
  intro h75
  simp only [A4] at h75
  have hzg : V9 (p.Net.Homes.length : Int) z = true := (by unfold V9; rw [Bool.or_eq_false_iff, Bool.not_eq_false', Bool.not_eq_false'] at h75; rw [h75.1, h75.2]; rfl)
  refine R6 ?_
  refine L0 j (j + 1) ?_ ?_ (K6 ⟨rfl, rfl, rfl, trivial⟩)
  ·exact ⟨by omega, hinv.2.trans (AN2 hz hzg)⟩
  omega
 intro h53
 have k53 := of_decide_eq_false h53; try simp only [A4] at k53
 rw [hinv.2, AT3 (by simp only [A4, decide_eq_false_iff_not] at h53; omega)]
 refine R6 ?_
 exact H5 rfl (A8 rfl B6)
end Go.Proofs.YtkibefcceekmnaaGreatDoor
namespace Go.M
open Go.AV
abbrev decD (n : Nat) : Str := Lib.decDigits n
abbrev l4 (n : Int) : Str := Lib.itoa n
theorem X0 {n : Nat} (h : n < 10) : decD n = [UInt8.ofNat (48 + n)] := Lib.decDigits_one h
theorem m3 {n : Nat} (h : ¬ n < 10) : decD n = decD (n / 10) ++ [UInt8.ofNat (48 + n % 10)] := by
  show Lib.decDigits n = _
  rw [Lib.decDigits, dif_neg h]
theorem z8 : ∀ {k n : Nat}, n < 10 ^ k → 1 ≤ k → (decD n).length ≤ k
  | 0, _, _, h => by omega
  | k + 1, n, h, _ => by
    by_cases hn : n < 10
    · rw [X0 hn]; simp
    · rw [m3 hn, H6]
      have : k ≠ 0 := by rintro rfl; simp at h; omega
      have h2 := z8 (k := k) (n := n / 10) (by rw [Nat.pow_succ] at h; omega) qz6
      simp only [J9, Z3]; omega
theorem AG1 (n : Nat) : l4 n = decD n := Lib.itoa_nonneg n
theorem itoa_pos {n : Int} (h : 0 ≤ n) : l4 n = decD n.toNat := by
  obtain ⟨m, rfl⟩ : ∃ m : Nat, n = (m : Int) := ⟨n.toNat, by omega⟩
  rw [AG1]; rfl
theorem An3 {n : Int} (h : 0 ≤ n ∧ n ≤ 1000000) : (l4 n).length ≤ 7 := by
  rw [itoa_pos h.1]
  exact z8 qz6 D1
theorem u8w2 {x : Int} {m : Nat} (h : x % 256 = ((m % 256 : Nat) : Int)) : IntKind.u8.wrap x = ((UInt8.ofNat m).toNat : Int) := by
  have : (UInt8.ofNat m).toNat = m % 256 := by simp
  rw [this, ← h]
  simp [IntKind.wrap, IntKind.bits, IntKind.signed]
theorem dig1 (n : Nat) : IntKind.u8.wrap (48 + (n : Int)) = ((UInt8.ofNat (48 + n)).toNat : Int) := u8w2 qz6
theorem tmod10T (n : Nat) : (n : Int).tmod 10 = ((n % 10 : Nat) : Int) := rfl
theorem dig2 (n : Nat) : IntKind.u8.wrap (48 + (n : Int).tmod 10) = ((UInt8.ofNat (48 + n % 10)).toNat : Int) := by
  rw [show (n : Int).tmod 10 = ((n % 10 : Nat) : Int) from rfl]; exact u8w2 qz6
theorem quo10 {n : Nat} (h : n ≤ 1000000000000) : IntKind.i64.wrap ((n : Int).tdiv 10) = ((n / 10 : Nat) : Int) := by
  rw [show (n : Int).tdiv 10 = ((n / 10 : Nat) : Int) from rfl]
  have h2 : n / 10 ≤ 1000000000000 := by omega
  simp [IntKind.wrap, IntKind.bits, IntKind.signed]
  omega
def AE0 (b : UInt8) : Bool := decide (48 ≤ b.toNat) && decide (b.toNat ≤ 57)
theorem decD_dig (n : Nat) : ∀ b ∈ decD n, 48 ≤ b.toNat ∧ b.toNat ≤ 57 := by
  induction n using Nat.strongRecOn with
  | ind n ih =>
    intro b hb
    by_cases h : n < 10
    · rw [X0 h] at hb
      rw [List.mem_singleton.1 hb]
      have : (UInt8.ofNat (48 + n)).toNat = (48 + n) % 256 := by simp
      omega
    · rw [m3 h] at hb
      rcases List.mem_append.1 hb with hb | hb
      · exact ih (n / 10) qz6 b hb
      · rw [List.mem_singleton.1 hb]
        have : (UInt8.ofNat (48 + n % 10)).toNat = (48 + n % 10) % 256 := by simp
        omega
theorem BB1 {n : Nat} (hn : 0 < n) : ∃ d r, decD n = d :: r ∧ d.toNat ≠ 48 := by
  induction n using Nat.strongRecOn with
  | ind n ih =>
    by_cases h : n < 10
    · refine ⟨_, _, X0 h, ?_⟩
      have : (UInt8.ofNat (48 + n)).toNat = (48 + n) % 256 := by simp
      omega
    · obtain ⟨d, r, e, hd⟩ := ih (n / 10) qz6 qz6
      exact ⟨d, r ++ [UInt8.ofNat (48 + n % 10)], by rw [m3 h, e]; rfl, hd⟩
theorem At5 (n : Nat) : decD n ≠ [] := by
  by_cases h : n < 10
  · rw [X0 h]; simp
  · rw [m3 h]; simp
theorem At6 {d : UInt8} (hd : 48 ≤ d.toNat ∧ d.toNat ≤ 57) : ∀ (l : Str) (acc u : Nat), Lib.parseUint10 acc l = .ok u → u < 100000000000000000 → Lib.parseUint10 acc (l ++ [d]) = .ok (u * 10 + (d.toNat - 48))
  | [], acc, u, h, hu => by
    simp only [Lib.parseUint10] at h
    injection h with h
    subst h
    simp only [List.nil_append, Lib.parseUint10]
    rw [if_pos hd, if_neg qz6, if_neg qz6]
  | c :: r, acc, u, h, hu => by
    simp only [Lib.parseUint10] at h
    show Lib.parseUint10 acc (c :: (r ++ [d])) = _
    simp only [Lib.parseUint10]
    split at h
    · rename_i h1
      rw [if_pos h1]
      split at h
      · cases h
      · rename_i h2
        rw [if_neg h2]
        split at h
        · cases h
        · rename_i h3
          rw [if_neg h3]
          exact At6 hd r _ u h hu
    · cases h
theorem pu_dec (n : Nat) : n ≤ 1000000000000 → Lib.parseUint10 0 (decD n) = .ok n := by
  induction n using Nat.strongRecOn with
  | ind n ih =>
    intro hn
    by_cases h : n < 10
    · rw [X0 h]
      have : (UInt8.ofNat (48 + n)).toNat = 48 + n := by simp; omega
      simp only [Lib.parseUint10, this]
      rw [if_pos qz6, if_neg qz6, if_neg qz6]
      congr 1; omega
    · rw [m3 h]
      have h8 : (UInt8.ofNat (48 + n % 10)).toNat = 48 + n % 10 := by simp; omega
      rw [At6 qz6 _ 0 (n / 10) (ih (n / 10) qz6 qz6) qz6, h8]
      congr 1; omega
theorem atoi_dec {n : Nat} (h : n ≤ 1000000000000) : Lib.atoiAll (decD n) = .ok (n : Int) := by
  have hp := pu_dec n h
  have hdg := decD_dig n
  cases hl : decD n with
  | nil => exact absurd hl (At5 n)
  | cons c r =>
    rw [hl] at hp hdg
    have hc := hdg c List.mem_cons_self
    unfold Lib.atoiAll Lib.parseMag
    dsimp only
    rw [if_neg (show ¬ (c.toNat = 43 ∨ c.toNat = 45) by omega), if_neg M8, hp]
    dsimp only
    rw [if_neg qz6, if_neg qz6, if_neg qz6]
def atoiV (s : Str) : Int := match Lib.atoiAll s with | .ok v => v | .range => Lib.atoiSat s | _ => 0
def j9 (s : Str) : Bool := match Lib.atoiAll s with | .ok _ => false | _ => true
def readI (s : Str) (lo hi : Int) : Int × Bool := if ((j9 s || !within (atoiV s) lo hi) || (l4 (atoiV s) != s)) = true then (0, false) else (atoiV s, true)
theorem BB2 {n : Nat} {lo hi : Int} (h : n ≤ 1000000000000) (hw : within n lo hi = true) : readI (decD n) lo hi = ((n : Int), true) := by
  have e := atoi_dec h
  have e1 : atoiV (decD n) = n := by unfold atoiV; rw [e]
  have e2 : j9 (decD n) = false := by unfold j9; rw [e]
  unfold readI
  rw [e1, e2, hw, AG1, if_neg M8]
def L4 (n : Nat) : Str → Int
  | [] => n
  | b :: s => if AE0 b = true then L4 (10 * n + (b.toNat - 48)) s else -1
def AL3 (s : Str) : Bool := !within s.length 1 6 || ((s.head?.map fun b => b == 48).getD false && decide ((1 : Int) < (s.length : Int)))
def l1R (s : Str) : Int := if AL3 s = true then -1 else L4 0 s
theorem At7 {d : UInt8} (hd : 48 ≤ d.toNat ∧ d.toNat ≤ 57) : ∀ (s : Str) (m v : Nat), L4 m s = (v : Int) → L4 m (s ++ [d]) = ((10 * v + (d.toNat - 48) : Nat) : Int)
  | [], m, v, h => by
    simp only [L4] at h
    have : m = v := by omega
    subst this
    simp only [List.nil_append, L4]
    rw [if_pos (by unfold AE0; simp; omega)]
  | b :: s, m, v, h => by
    simp only [L4] at h
    show L4 m (b :: (s ++ [d])) = _
    simp only [L4]
    split at h
    · rename_i h1
      rw [if_pos h1]
      exact At7 hd s _ v h
    · exfalso; omega
theorem rd_dec (n : Nat) : L4 0 (decD n) = (n : Int) := by
  induction n using Nat.strongRecOn with
  | ind n ih =>
    by_cases h : n < 10
    · rw [X0 h]
      have h8 : (UInt8.ofNat (48 + n)).toNat = 48 + n := by simp; omega
      simp only [L4, h8]
      rw [if_pos (by unfold AE0; rw [h8]; simp; omega)]
      congr 1; omega
    · rw [m3 h]
      have h8 : (UInt8.ofNat (48 + n % 10)).toNat = 48 + n % 10 := by simp; omega
      rw [At7 qz6 _ 0 (n / 10) (ih (n / 10) qz6), h8]
      congr 1; omega
theorem l1R_dec {n : Nat} (h : n ≤ 999999) : l1R (decD n) = n := by
  have hl := z8 (k := 6) (n := n) qz6 D1
  have hne := At5 n
  have hpos : 1 ≤ (decD n).length := by
    cases hd : decD n with
    | nil => exact absurd hd hne
    | cons b r => simp
  unfold l1R
  rw [if_neg, rd_dec]
  unfold AL3 within
  simp only [Bool.or_eq_true, Bool.not_eq_true', Bool.and_eq_true, not_or, not_and]
  refine ⟨by simp; omega, fun hh hlt => ?_⟩
  by_cases hz : n = 0
  · subst hz
    have : (decD 0).length = 1 := by rw [X0 D1]; rfl
    simp at hlt; omega
  · obtain ⟨d, r, e, hd⟩ := BB1 (n := n) qz6
    rw [e] at hh
    simp at hh
    rw [hh] at hd
    exact hd rfl
structure GoodC (c : O1) : Prop where
  time : ∃ t : Nat, c.Time = (t : Int) ∧ 1 ≤ t ∧ t ≤ 100000
  group : ∃ g : Nat, c.Group = (g : Int) ∧ g ≤ 3
  key : 1 ≤ c.Key.length ∧ (32 : UInt8) ∉ c.Key ∧ (61 : UInt8) ∉ c.Key
  val : (32 : UInt8) ∉ c.Val ∧ (61 : UInt8) ∉ c.Val
  gone : c.Gone = true → c.Val = []
end Go.M
namespace Go.Proofs
open Go.Shelf
def Tryz.itoa_ren : Go.Shelf.Ren := ⟨fun | 171 => 71 | 243 => 97 | 246 => 110 | 283 => 121 | 284 => 122 | 285 => 123 | 286 => 124 | 129 => 134 | 317 => 133 | 318 => 135 | 319 => 136 | 320 => 137 | 337 => 143 | 338 => 144 | n => n, fun | 3 => 3 | 9 => 9 | 2 => 2 | 4 => 4 | 171 => 133 | 0 => 0 | 53 => 42 | 37 => 22 | 5 => 5 | 173 => 136 | 212 => 145 | 51 => 146 | 20 => 20 | 213 => 147 | 46 => 84 | 232 => 164 | 233 => 165 | n => n, fun | 17 => 0 | 18 => 3 | 19 => 4 | n => n⟩
theorem Tryz.itoa : Go.Proofs.LaysM.n171 Tryz.prog Tryz.itoa_ren := {
  mixed := by kernel_rfl
  f129 := Tryz.func134.trans (congrArg some qz8)
  f171 := Tryz.func71.trans (congrArg some qz8)
  f243 := Tryz.func97.trans (congrArg some qz8)
  f246 := Tryz.func110.trans (congrArg some qz8)
  f283 := Tryz.func121.trans (congrArg some qz8)
  f284 := Tryz.func122.trans (congrArg some qz8)
  f285 := Tryz.func123.trans (congrArg some qz8)
  f286 := Tryz.func124.trans (congrArg some qz8)
  f317 := Tryz.func133.trans (congrArg some qz8)
  f318 := Tryz.func135.trans (congrArg some qz8)
  f319 := Tryz.func136.trans (congrArg some qz8)
  f320 := Tryz.func137.trans (congrArg some qz8)
  f337 := Tryz.func143.trans (congrArg some qz8)
  f338 := Tryz.func144.trans (congrArg some qz8)
  t0 := Tryz.underlying0
  a0 := Tryz.isAgg0
  z0 := Tryz.sizeOf0
  v0 := Tryz.zeroValue0
  t2 := Tryz.underlying2
  a2 := Tryz.isAgg2
  z2 := Tryz.sizeOf2
  v2 := Tryz.zeroValue2
  t3 := J8
  a3 := K5
  z3 := D0
  v3 := Tryz.zeroValue3
  t4 := T5
  a4 := X1
  z4 := N6
  v4 := Tryz.zeroValue4
  t5 := T2
  a5 := Tryz.isAgg5
  z5 := Tryz.sizeOf5
  v5 := Tryz.zeroValue5
  t9 := I2
  a9 := Tryz.isAgg9
  z9 := Tryz.sizeOf9
  v9 := Tryz.zeroValue9
  t20 := Tryz.underlying20
  a20 := Tryz.isAgg20
  z20 := Tryz.sizeOf20
  v20 := Tryz.zeroValue20
  t37 := Q3
  a37 := Tryz.isAgg22
  z37 := Tryz.sizeOf22
  v37 := Tryz.zeroValue22
  t46 := Tryz.underlying84
  a46 := Tryz.isAgg84
  z46 := Tryz.sizeOf84
  v46 := Tryz.zeroValue84
  t51 := Tryz.underlying146
  a51 := Tryz.isAgg146
  z51 := Tryz.sizeOf146
  v51 := Tryz.zeroValue146
  t53 := Tryz.underlying42
  a53 := Tryz.isAgg42
  z53 := Tryz.sizeOf42
  v53 := Tryz.zeroValue42
  t171 := Tryz.underlying133
  a171 := Tryz.isAgg133
  z171 := Tryz.sizeOf133
  v171 := Tryz.zeroValue133
  t173 := Tryz.underlying136
  a173 := Tryz.isAgg136
  z173 := Tryz.sizeOf136
  v173 := Tryz.zeroValue136
  t212 := Tryz.underlying145
  a212 := Tryz.isAgg145
  z212 := Tryz.sizeOf145
  v212 := Tryz.zeroValue145
  t213 := Tryz.underlying147
  a213 := Tryz.isAgg147
  z213 := Tryz.sizeOf147
  t232 := Tryz.underlying164
  a232 := Tryz.isAgg164
  z232 := Tryz.sizeOf164
  v232 := Tryz.zeroValue164
  t233 := Tryz.underlying165
  a233 := Tryz.isAgg165
  z233 := Tryz.sizeOf165
  v233 := Tryz.zeroValue165
  g17 := by kernel_rfl
  g18 := by kernel_rfl
  g19 := by kernel_rfl
  i0 := by kernel_rfl
  i2 := by kernel_rfl
  i3 := by kernel_rfl
  i4 := by kernel_rfl
  i5 := by kernel_rfl
  i9 := by kernel_rfl
  i20 := by kernel_rfl
  i37 := by kernel_rfl
  i46 := by kernel_rfl
  i51 := by kernel_rfl
  i53 := by kernel_rfl
  i171 := by kernel_rfl
  i173 := by kernel_rfl
  i212 := by kernel_rfl
  i232 := by kernel_rfl
  i233 := by kernel_rfl
  m17 := by kernel_rfl
  m18 := by kernel_rfl
  m19 := by kernel_rfl }
def Tryz.atoi_ren : Go.Shelf.Ren := ⟨fun | 172 => 100 | 244 => 111 | 245 => 112 | 247 => 125 | 279 => 126 | 280 => 127 | 281 => 128 | 282 => 129 | 287 => 138 | 316 => 139 | 171 => 71 | 205 => 140 | 321 => 145 | 322 => 146 | 243 => 97 | 246 => 110 | 283 => 121 | 284 => 122 | 285 => 123 | 286 => 124 | 129 => 134 | 317 => 133 | 318 => 135 | 319 => 136 | 320 => 137 | 337 => 143 | 338 => 144 | n => n, fun | 9 => 9 | 3 => 3 | 75 => 115 | 76 => 116 | 4 => 4 | 5 => 5 | 167 => 138 | 37 => 22 | 0 => 0 | 85 => 139 | 2 => 2 | 168 => 141 | 53 => 42 | 175 => 149 | 46 => 84 | 210 => 153 | 127 => 160 | 145 => 163 | 143 => 161 | 21 => 21 | 171 => 133 | 173 => 136 | 212 => 145 | 51 => 146 | 20 => 20 | 213 => 147 | 232 => 164 | 233 => 165 | 80 => 166 | n => n, fun | 15 => 1 | 16 => 2 | 17 => 0 | 18 => 3 | 19 => 4 | n => n⟩
theorem Tryz.atoi : Go.Proofs.LaysC.n172 Tryz.prog Tryz.atoi_ren := {
  mixed := by kernel_rfl
  f129 := Tryz.func134.trans (congrArg some qz8)
  f171 := Tryz.func71.trans (congrArg some qz8)
  f172 := Tryz.func100.trans (congrArg some qz8)
  f205 := Tryz.func140.trans (congrArg some qz8)
  f243 := Tryz.func97.trans (congrArg some qz8)
  f244 := Tryz.func111.trans (congrArg some qz8)
  f245 := Tryz.func112.trans (congrArg some qz8)
  f246 := Tryz.func110.trans (congrArg some qz8)
  f247 := Tryz.func125.trans (congrArg some qz8)
  f279 := Tryz.func126.trans (congrArg some qz8)
  f280 := Tryz.func127.trans (congrArg some qz8)
  f281 := Tryz.func128.trans (congrArg some qz8)
  f282 := Tryz.func129.trans (congrArg some qz8)
  f283 := Tryz.func121.trans (congrArg some qz8)
  f284 := Tryz.func122.trans (congrArg some qz8)
  f285 := Tryz.func123.trans (congrArg some qz8)
  f286 := Tryz.func124.trans (congrArg some qz8)
  f287 := Tryz.func138.trans (congrArg some qz8)
  f316 := Tryz.func139.trans (congrArg some qz8)
  f317 := Tryz.func133.trans (congrArg some qz8)
  f318 := Tryz.func135.trans (congrArg some qz8)
  f319 := Tryz.func136.trans (congrArg some qz8)
  f320 := Tryz.func137.trans (congrArg some qz8)
  f321 := Tryz.func145.trans (congrArg some qz8)
  f322 := Tryz.func146.trans (congrArg some qz8)
  f337 := Tryz.func143.trans (congrArg some qz8)
  f338 := Tryz.func144.trans (congrArg some qz8)
  t0 := Tryz.underlying0
  a0 := Tryz.isAgg0
  z0 := Tryz.sizeOf0
  v0 := Tryz.zeroValue0
  t2 := Tryz.underlying2
  a2 := Tryz.isAgg2
  z2 := Tryz.sizeOf2
  v2 := Tryz.zeroValue2
  t3 := J8
  a3 := K5
  z3 := D0
  v3 := Tryz.zeroValue3
  t4 := T5
  a4 := X1
  z4 := N6
  v4 := Tryz.zeroValue4
  t5 := T2
  a5 := Tryz.isAgg5
  z5 := Tryz.sizeOf5
  v5 := Tryz.zeroValue5
  t9 := I2
  a9 := Tryz.isAgg9
  z9 := Tryz.sizeOf9
  v9 := Tryz.zeroValue9
  t20 := Tryz.underlying20
  a20 := Tryz.isAgg20
  z20 := Tryz.sizeOf20
  v20 := Tryz.zeroValue20
  t21 := Tryz.underlying21
  a21 := Tryz.isAgg21
  z21 := Tryz.sizeOf21
  v21 := Tryz.zeroValue21
  t37 := Q3
  a37 := Tryz.isAgg22
  z37 := Tryz.sizeOf22
  v37 := Tryz.zeroValue22
  t46 := Tryz.underlying84
  a46 := Tryz.isAgg84
  z46 := Tryz.sizeOf84
  v46 := Tryz.zeroValue84
  t51 := Tryz.underlying146
  a51 := Tryz.isAgg146
  z51 := Tryz.sizeOf146
  v51 := Tryz.zeroValue146
  t53 := Tryz.underlying42
  a53 := Tryz.isAgg42
  z53 := Tryz.sizeOf42
  v53 := Tryz.zeroValue42
  t75 := Tryz.underlying115
  a75 := Tryz.isAgg115
  z75 := Tryz.sizeOf115
  v75 := Tryz.zeroValue115
  t76 := Tryz.underlying116
  a76 := Tryz.isAgg116
  z76 := Tryz.sizeOf116
  v76 := Tryz.zeroValue116
  t85 := Tryz.underlying139
  a85 := Tryz.isAgg139
  z85 := Tryz.sizeOf139
  v85 := Tryz.zeroValue139
  t127 := Tryz.underlying160
  a127 := Tryz.isAgg160
  z127 := Tryz.sizeOf160
  v127 := Tryz.zeroValue160
  t143 := Tryz.underlying161
  a143 := Tryz.isAgg161
  z143 := Tryz.sizeOf161
  v143 := Tryz.zeroValue161
  t145 := Tryz.underlying163
  a145 := Tryz.isAgg163
  z145 := Tryz.sizeOf163
  v145 := Tryz.zeroValue163
  t167 := Tryz.underlying138
  a167 := Tryz.isAgg138
  z167 := Tryz.sizeOf138
  v167 := Tryz.zeroValue138
  t168 := Tryz.underlying141
  a168 := Tryz.isAgg141
  z168 := Tryz.sizeOf141
  v168 := Tryz.zeroValue141
  t171 := Tryz.underlying133
  a171 := Tryz.isAgg133
  z171 := Tryz.sizeOf133
  v171 := Tryz.zeroValue133
  t173 := Tryz.underlying136
  a173 := Tryz.isAgg136
  z173 := Tryz.sizeOf136
  v173 := Tryz.zeroValue136
  t175 := Tryz.underlying149
  a175 := Tryz.isAgg149
  z175 := Tryz.sizeOf149
  v175 := Tryz.zeroValue149
  t210 := Tryz.underlying153
  a210 := Tryz.isAgg153
  z210 := Tryz.sizeOf153
  v210 := Tryz.zeroValue153
  t212 := Tryz.underlying145
  a212 := Tryz.isAgg145
  z212 := Tryz.sizeOf145
  v212 := Tryz.zeroValue145
  t213 := Tryz.underlying147
  a213 := Tryz.isAgg147
  z213 := Tryz.sizeOf147
  t232 := Tryz.underlying164
  a232 := Tryz.isAgg164
  z232 := Tryz.sizeOf164
  v232 := Tryz.zeroValue164
  t233 := Tryz.underlying165
  a233 := Tryz.isAgg165
  z233 := Tryz.sizeOf165
  v233 := Tryz.zeroValue165
  g15 := by kernel_rfl
  g16 := by kernel_rfl
  g17 := by kernel_rfl
  g18 := by kernel_rfl
  g19 := by kernel_rfl
  t80 := Tryz.underlying166
  a80 := Tryz.isAgg166
  z80 := Tryz.sizeOf166
  v80 := Tryz.zeroValue166
  i0 := by kernel_rfl
  i2 := by kernel_rfl
  i3 := by kernel_rfl
  i4 := by kernel_rfl
  i5 := by kernel_rfl
  i9 := by kernel_rfl
  i20 := by kernel_rfl
  i21 := by kernel_rfl
  i37 := by kernel_rfl
  i46 := by kernel_rfl
  i51 := by kernel_rfl
  i53 := by kernel_rfl
  i75 := by kernel_rfl
  i76 := by kernel_rfl
  i80 := by kernel_rfl
  i85 := by kernel_rfl
  i127 := by kernel_rfl
  i143 := by kernel_rfl
  i145 := by kernel_rfl
  i167 := by kernel_rfl
  i168 := by kernel_rfl
  i171 := by kernel_rfl
  i173 := by kernel_rfl
  i175 := by kernel_rfl
  i210 := by kernel_rfl
  i212 := by kernel_rfl
  i232 := by kernel_rfl
  i233 := by kernel_rfl
  m15 := by kernel_rfl
  m16 := by kernel_rfl
  m17 := by kernel_rfl
  m18 := by kernel_rfl
  m19 := by kernel_rfl
  c0 := by kernel_rfl
  c2 := by kernel_rfl
  c3 := by kernel_rfl
  c4 := by kernel_rfl
  c5 := by kernel_rfl
  c9 := by kernel_rfl
  c20 := by kernel_rfl
  c21 := by kernel_rfl
  c37 := by kernel_rfl
  c46 := by kernel_rfl
  c51 := by kernel_rfl
  c53 := by kernel_rfl
  c75 := by kernel_rfl
  c76 := by kernel_rfl
  c80 := by kernel_rfl
  c85 := by kernel_rfl
  c127 := by kernel_rfl
  c143 := by kernel_rfl
  c145 := by kernel_rfl
  c167 := by kernel_rfl
  c168 := by kernel_rfl
  c171 := by kernel_rfl
  c173 := by kernel_rfl
  c175 := by kernel_rfl
  c210 := by kernel_rfl
  c212 := by kernel_rfl
  c213 := by kernel_rfl
  c232 := by kernel_rfl
  c233 := by kernel_rfl }
end Go.Proofs
namespace Go.M
open Go.AV
theorem BB3 (s : Str) : -9223372036854775808 ≤ atoiV s ∧ atoiV s ≤ 9223372036854775807 := by
  unfold atoiV
  split
  · rename_i h; exact Lib.atoiAll_bounds h
  · unfold Lib.atoiSat; split <;> omega
  · omega
theorem bad_cons (b : UInt8) (r : Str) : AL3 (b :: r) = (!within ((b :: r).length : Nat) 1 6 || (((b.toNat : Int) == 48) && decide ((1 : Int) < ((b :: r).length : Nat)))) := by
  unfold AL3
  have : (b == 48) = ((b.toNat : Int) == 48) := by
    by_cases h : b = 48
    · subst h; rfl
    · have h2 : b.toNat ≠ 48 := fun e => h (UInt8.toNat_inj.1 e)
      have h3 : (b == 48) = false := by simpa using h
      rw [h3]; symm; simp; omega
  simp [this]
theorem dig_val {x : UInt8} (h : 48 ≤ x.toNat ∧ x.toNat ≤ 57) : IntKind.i64.wrap (IntKind.u8.wrap ((x.toNat : Int) - 48)) = ((x.toNat - 48 : Nat) : Int) := by
  have e : IntKind.u8.wrap ((x.toNat : Int) - 48) = ((x.toNat - 48 : Nat) : Int) := by
    simp [IntKind.wrap, IntKind.bits, IntKind.signed]; omega
  rw [e, AP6 qz6]
theorem rd_next {n i : Nat} {s : Str} {x : UInt8} (hx : s[i]? = some x) (h : 48 ≤ x.toNat ∧ x.toNat ≤ 57) : L4 n (s.drop i) = L4 (10 * n + (x.toNat - 48)) (s.drop (i + 1)) := by
  have hlt := (List.getElem?_eq_some_iff.1 hx).1
  rw [List.drop_eq_getElem_cons hlt, (List.getElem?_eq_some_iff.1 hx).2]
  conv => lhs; unfold L4
  rw [if_pos (by unfold AE0; simp; omega)]
theorem rd_stop {n i : Nat} {s : Str} {x : UInt8} (hx : s[i]? = some x) (h : x.toNat < 48 ∨ 57 < x.toNat) : L4 n (s.drop i) = -1 := by
  have hlt := (List.getElem?_eq_some_iff.1 hx).1
  rw [List.drop_eq_getElem_cons hlt, (List.getElem?_eq_some_iff.1 hx).2]
  conv => lhs; unfold L4
  rw [if_neg (by unfold AE0; simp; omega)]
theorem pow6 {i : Nat} (h : i ≤ 6) : 10 ^ i ≤ 1000000 := Nat.pow_le_pow_right D1 h
theorem pow_nx {n i d : Nat} (h : n + 1 ≤ 10 ^ i) (hd : d ≤ 9) : (10 * n + d) + 1 ≤ 10 ^ (i + 1) := by rw [Nat.pow_succ]; omega
end Go.M
namespace Go.Proofs.YtkibefcceekmnaaGreatDoor
open Go Go.AV Go.M
attribute [local irreducible] OpW OpA OpS AWP D3 P2 F0 OpE RetOk K2 M3 Le Ev I4 Q8 Int.tmod Int.tdiv IntKind.wrap
def tabW (w : World) : Prop := Lib.TabIs Tryz.prog w "internal/strconv.uint64pow10" .u64 Lib.pow10Tab
theorem BB4 {W w' : World} (h : tabW W) (hw : RLe (heapR W) w') : tabW w' := Av5 h hw
theorem BB5 {W : World} {rest : List (String × DataW Unit)} (h : laidMet Tryz.prog (("internal/strconv.uint64pow10", Lib.tabData .u64 Lib.pow10Tab) :: rest) W) : tabW W :=
  Lib.tabIs_of_head (g := 0) (t := 145) qz8 qz8 Tryz.underlying145 Tryz.underlying42 qz8 qz8 h
theorem AI4 (n : Int) (h : -9223372036854775808 ≤ n ∧ n ≤ 9223372036854775807) : D3 Tryz.prog 71 [AV.wt tabW (AV.int n)] (AV.str (l4 n)) :=
  Ak7 fun R w v hr hv hT => by
    rw [show v = Value.int .i64 n from hv]
    refine (Any.strconv_Itoa Tryz.itoa n h.1 h.2 w hT).mono ?_
    rintro e w' ⟨rfl, k, os, rfl⟩
    exact ⟨_, rfl, rfl, Ap7 w k os⟩
theorem Aa6 (n : Nat) : n ≤ 1000000000000 → D3 Tryz.prog 84 [AV.int n] (AV.str (decD n)) := by
 induction n using Nat.strongRecOn with
 | ind n ih =>
  intro hn
  refine C6 Tryz.func84 rfl Tryz.ntmps84 rfl ?_
  refine R2 ?_
  refine A2 rfl (P1 rfl (W5 (l := []) rfl)) ?_
  refine R7 ?_
  refine A6 (A0 rfl) ?_ ?_
  ·intro h4
   have k4 := of_decide_eq_true h4; try simp only [A4] at k4
   have hn10 : n < 10 := by omega
   refine R4 ?_
   refine A2 rfl (o7 rfl qz8 T2 (A0 rfl)) ?_
   rw [dig1]
   refine R1 ?_
   refine A2 rfl (As3 (bs := [UInt8.ofNat (48 + n)]) rfl Q3 T2 I2 (A0 rfl)) ?_
   refine R3 ?_
   exact H5 rfl (A8 rfl qz77)
  intro h4
  have k4 := of_decide_eq_false h4; try simp only [A4] at k4
  have hn10 : ¬ n < 10 := by omega
  have hdl := z8 (k := 12) (n := n / 10) qz6 D1
  refine R4 ?_
  refine B8 rfl rfl (w_quo rfl (A0 rfl) D4 D1) ?_
  rw [quo10 hn]
  refine B8 rfl rfl (B3 rfl Tryz.call84 rfl (ih (n / 10) qz6 qz6) (A1 (A0 rfl) A3)) ?_
  refine R1 ?_
  refine B8 rfl rfl (w_rem rfl (A0 rfl) D4 D1) ?_
  refine B8 rfl rfl (Aj6 rfl D4 (A0 rfl) (by rw [tmod10T]; omega)) ?_
  refine B8 rfl rfl (o7 rfl qz8 T2 (A0 rfl)) ?_
  rw [dig2]
  refine R1 ?_
  refine B8 rfl rfl (As3 (bs := [UInt8.ofNat (48 + n % 10)]) rfl Q3 T2 I2 (A0 rfl)) ?_
  refine B8 rfl rfl (AM0 rfl (A0 rfl) (A0 rfl) (by first | omega | (simp only [H6, G8, List.length_drop, J9, Z3]; omega))) ?_
  refine R3 ?_
  exact H5 rfl (A8 rfl qz77)
def readW (w : World) : Prop := tabW w ∧ (∃ tp p, w.var? Tryz.prog "strconv.ErrSyntax" = some #[.iface tp p]) ∧ (∃ tp p, w.var? Tryz.prog "strconv.ErrRange" = some #[.iface tp p])
theorem Aw3 {W w' : World} (h : readW W) (hw : RLe (heapR W) w') : readW w' :=
  let ⟨h1, ⟨t3, p3, h3⟩, ⟨t4, p4, h4⟩⟩ := h
  ⟨BB4 h1 hw, ⟨t3, p3, Ak8 h3 hw⟩, ⟨t4, p4, Ak8 h4 hw⟩⟩
theorem BB6 (s : Str) (hs : s.length ≤ 1048576) : D3 Tryz.prog 100 [AV.wt readW (AV.str s)] (AV.tup [AV.int (atoiV s), AV.errB (j9 s)]) :=
  Ak7 fun R w v hr hx hT => by
    have hsz : (ByteArray.mk s.toArray).size = s.length := r5 s
    obtain ⟨_, ⟨t3, p3, h3⟩, ⟨t4, p4, h4⟩⟩ := hT
    rw [show v = Value.string ⟨s.toArray⟩ from hx]
    rcases ha : Lib.atoiAll s with n | _ | _
    · have e1 : atoiV s = n := by unfold atoiV; rw [ha]
      have e2 : j9 s = false := by unfold j9; rw [ha]
      rw [e1, e2]
      refine (Any.strconv_Atoi_ok Tryz.atoi ⟨s.toArray⟩ (by rw [hsz]; omega) n ha w).mono ?_
      rintro e w' ⟨rfl, hw⟩
      exact ⟨_, rfl, ⟨_, rfl, O9.cons rfl (O9.cons ⟨fun _ => rfl, fun h => (by cases h)⟩ (O9.nil _))⟩, by (rcases hw with rfl | ⟨t, rfl⟩); exact Av6 _; exact Ap8 _ _ _⟩
    · have e1 : atoiV s = 0 := by unfold atoiV; rw [ha]
      have e2 : j9 s = true := by unfold j9; rw [ha]
      rw [e1, e2]
      refine (Any.strconv_Atoi_syntax_var Tryz.atoi ⟨s.toArray⟩ (by rw [hsz]; omega) ha t3 p3 w h3).mono ?_
      rintro e w' ⟨N, rfl, _, _, hb⟩
      exact ⟨_, rfl, ⟨_, rfl, O9.cons rfl (O9.cons ⟨fun h => (by cases h), fun _ => ⟨_, _, rfl⟩⟩ (O9.nil _))⟩, hb⟩
    · have e1 : atoiV s = Lib.atoiSat s := by unfold atoiV; rw [ha]
      have e2 : j9 s = true := by unfold j9; rw [ha]
      rw [e1, e2]
      refine (Any.strconv_Atoi_range_var Tryz.atoi ⟨s.toArray⟩ (by rw [hsz]; omega) ha t4 p4 w h4).mono ?_
      rintro e w' ⟨N, rfl, _, _, hb⟩
      exact ⟨_, rfl, ⟨_, rfl, O9.cons rfl (O9.cons ⟨fun h => (by cases h), fun _ => ⟨_, _, rfl⟩⟩ (O9.nil _))⟩, hb⟩
theorem An4 (s : Str) (lo hi : Int) (hs : s.length ≤ 1048576) : D3 Tryz.prog 74 [AV.wt readW (AV.str s), AV.int lo, AV.int hi] (AV.tup [AV.int (readI s lo hi).1, AV.bool (readI s lo hi).2]) := by
 refine C6 Tryz.func74 rfl Tryz.ntmps74 rfl ?_
 refine AWP.le (AK5 (t := 0) rfl) ?_
 refine R8 ?_
 refine A2 rfl (y8 0 rfl rfl Tryz.call100 rfl (BB6 s hs) (A1 (A0 rfl) A3) AJ1) ?_
 refine R10 ?_
 refine A2 rfl (w_errneq rfl qz8 (A0 rfl)) ?_
 refine R4 ?_
 refine J6 rfl (fun hc => B3 rfl Tryz.call22 rfl (O7 _ _ _) (A1 (B9 rfl hc) (A1 (B9 rfl hc) (A1 (B9 rfl hc) A3)))) ?_
 refine R4 ?_
 refine J6 rfl (fun hc => y8 0 rfl rfl Tryz.call71 rfl (AI4 (atoiV s) (BB3 s)) (A1 (B9 rfl hc) A3) AJ1) ?_
 refine R4 ?_
 refine A6 (A0 rfl) ?_ ?_
 ·intro h29
  have he : readI s lo hi = (0, false) := if_pos h29
  rw [he]
  refine R6 ?_
  exact O3 rfl D1 (B2 (A8 rfl B6) (B2 (A8 rfl B6) E3))
 intro h29
 have he : readI s lo hi = (atoiV s, true) := if_neg (by rw [h29]; decide)
 rw [he]
 refine R8 ?_
 exact O3 rfl D1 (B2 (A8 rfl B6) (B2 (A8 rfl B6) E3))
theorem Aw4 : D3 Tryz.prog 105 [AV.str []] (AV.int (l1R [])) := by
 refine C6 Tryz.func105 rfl Tryz.ntmps105 rfl ?_
 refine R9 ?_
 refine A2 rfl (B3 rfl Tryz.call35 rfl (O0 _ _ _) (A1 (A0 rfl) (A1 D4 (A1 D4 A3)))) ?_
 refine R3 ?_
 refine J6 rfl (fun hc => (show OpW _ _ _ _ _ _ (AV.byte 0) from (by exfalso; revert hc; decide))) ?_
 refine R8 ?_
 refine A6 (A0 rfl) ?_ ?_
 ·intro h18
  refine R5 ?_
  exact H5 rfl (A8 rfl B6)
 intro h18
 exfalso; revert h18; decide
theorem Aq2 (b : UInt8) (r : Str) (hs : (b :: r).length ≤ 1048576) : D3 Tryz.prog 105 [AV.str (b :: r)] (AV.int (l1R (b :: r))) := by
 have hb0 : (b :: r)[0]? = some b := rfl
 obtain ⟨s, hse⟩ : ∃ s, b :: r = s := ⟨_, rfl⟩
 have hbad := bad_cons b r
 rw [hse] at hs hb0 hbad ⊢
 refine C6 Tryz.func105 rfl Tryz.ntmps105 rfl ?_
 refine R9 ?_
 refine A2 rfl (B3 rfl Tryz.call35 rfl (O0 _ _ _) (A1 (A0 rfl) (A1 D4 (A1 D4 A3)))) ?_
 refine R3 ?_
 refine J6 rfl (fun hc => AE7 rfl I2 (B9 rfl hc) D4 (by have := (List.getElem?_eq_some_iff.1 hb0).1; omega) hb0) ?_
 refine R8 ?_
 refine A6 (A0 rfl) ?_ ?_
 ·intro h18
  have he : l1R s = -1 := if_pos (by rw [hbad]; exact h18)
  rw [he]
  refine R5 ?_
  exact H5 rfl (A8 rfl B6)
 intro h18
 have he : l1R s = L4 0 s := if_neg (by rw [hbad, h18]; decide)
 rw [he]
 have hl6 : s.length ≤ 6 := (by simp only [Bool.or_eq_false_iff, Bool.not_eq_false'] at h18; have h9 := h18.1; unfold within at h9; simp at h9; omega)
 refine R11 ?_
 refine S3 [(0, _)] _ (fun (i : Nat) (n : Nat) => i ≤ s.length ∧ L4 0 s = L4 n (s.drop i) ∧ n + 1 ≤ 10 ^ i) (fun (i : Nat) (n : Nat) => []) (fun (i : Nat) (n : Nat) => [(3, AV.int n), (4, AV.int i)]) (fun (i : Nat) (n : Nat) => s.length - i) (0) (0) ?_ (K6 ⟨rfl, rfl, rfl, trivial⟩) ?_
 ·exact ⟨Nat.zero_le _, rfl, by decide⟩
 intro i n hinv
 have hp6 := pow6 (i := i) qz6
 have hn6 := hinv.2.2
 refine R8 ?_
 refine A6 (A0 rfl) ?_ ?_
 ·intro h22
  have k22 := of_decide_eq_true h22; try simp only [A4] at k22
  obtain ⟨x, hx⟩ := F8 (show i < s.length by omega)
  refine R8 ?_
  refine A2 rfl (AE7 rfl I2 (A0 rfl) (A0 rfl) qz6 hx) ?_
  refine R4 ?_
  refine J6 rfl (fun hc => AE7 rfl I2 (B9 rfl hc) (B9 rfl hc) qz6 hx) ?_
  refine R3 ?_
  refine A6 (A0 rfl) ?_ ?_
  ·intro h34
   have hst := rd_stop (n := n) hx (by simp only [Bool.or_eq_true, decide_eq_true_eq] at h34; omega)
   rw [hinv.2.1, hst]
   refine R5 ?_
   exact H5 rfl (A8 rfl B6)
  intro h34
  have hdig : 48 ≤ x.toNat ∧ x.toNat ≤ 57 := (by simp only [Bool.or_eq_false_iff, decide_eq_false_iff_not] at h34; omega)
  refine R3 ?_
  refine A2 rfl (u2 rfl D4 (A0 rfl) qz3) ?_
  refine R2 ?_
  refine A2 rfl (AE7 rfl I2 (A0 rfl) (A0 rfl) qz6 hx) ?_
  refine A2 rfl (w_sub rfl (A0 rfl) D4) ?_
  refine A2 rfl (o7 rfl qz8 J8 (A0 rfl)) ?_
  rw [dig_val hdig]
  refine R8 ?_
  refine Q5 i n (i + 1) (10 * n + (x.toNat - 48)) ?_ ?_ (K6 ⟨congrArg (fun z => some (AV.int z)) qz6, rfl, rfl, trivial⟩)
  ·exact ⟨by omega, hinv.2.1.trans (rd_next hx hdig), pow_nx hinv.2.2 qz6⟩
  omega
 intro h22
 have k22 := of_decide_eq_false h22; try simp only [A4] at k22
 have hend : L4 0 s = (n : Int) := (by rw [hinv.2.1, List.drop_of_length_le qz6]; rfl)
 rw [hend]
 refine R7 ?_
 exact H5 rfl (A8 rfl B6)
theorem Aq3 (s : Str) (hs : s.length ≤ 1048576) : D3 Tryz.prog 105 [AV.str s] (AV.int (l1R s)) := by
  cases s with
  | nil => exact Aw4
  | cons b r => exact Aq2 b r hs
def A5.ocs (x : A5) (y : Value) : List AV := [AV.bool x.Up, AV.int x.Term, AV.int x.For, AV.is y, AV.bool x.Leads]
def A5.ow (x : A5) (y : Value) : List Go.AV.Own := [.arr y 3 1 (x.Yes.map fun z => [AV.int z])]
theorem A5.lcM {own : List Go.AV.Own} (x : A5) (y : Value) (h : ∀ o ∈ A5.ow x y, o ∈ own) : d3 own (A5.ocs x y) x.cs := D8 G5 (D8 G5 (D8 G5 (D8 (I5 (h _ (D9 (i := 0) rfl)) F5) X5)))
theorem Ae1 {l : List A5} {xs : List Value} {i : Nat} {x : A5} (hx : l[i]? = some x) (hl : xs.length = i) : (nrows A5.ocs (l.take i) xs ++ (l.drop i).map A5.cs)[i]? = some x.cs := by
  have hlt := (List.getElem?_eq_some_iff.1 hx).1
  have h1 : (nrows A5.ocs (l.take i) xs).length = i := by rw [AH6 (by rw [hl, G8]; omega), G8]; omega
  rw [List.getElem?_append_right qz6, h1, Nat.sub_self, List.getElem?_map, List.getElem?_drop, Nat.add_zero, hx]; rfl
theorem mid_set {l : List A5} {xs : List Value} {i : Nat} {x : A5} {y : Value} (hx : l[i]? = some x) (hl : xs.length = i) : (nrows A5.ocs (l.take i) xs ++ (l.drop i).map A5.cs).set i (A5.ocs x y) = nrows A5.ocs (l.take (i + 1)) (xs ++ [y]) ++ (l.drop (i + 1)).map A5.cs := by
  have hlt := (List.getElem?_eq_some_iff.1 hx).1
  have h1 : (nrows A5.ocs (l.take i) xs).length = i := by rw [AH6 (by rw [hl, G8]; omega), G8]; omega
  rw [List.set_append_right _ _ qz6, h1, Nat.sub_self, List.drop_eq_getElem_cons hlt, (List.getElem?_eq_some_iff.1 hx).2, List.map_cons, AG9, ← Av4 hx hl, List.append_assoc]; rfl
def pollC (p : TPoll) (v w : Value) : List AV := [AV.is v, AV.int p.Net.Now, ints p.Net.Homes, AV.int p.Net.Far, AV.list 4 (p.Net.Under.map A7.cs), AV.is w]
theorem AR2 (p : TPoll) (hs : PSz p) : F0 Tryz.prog 24 [AV.agg p.cs] [] (fun x : Value × Value × List Value => x.2.2.length = p.Voters.length) (fun x => .arr x.1 40 5 (nrows A5.ocs p.Voters x.2.2) :: .arr x.2.1 56 2 (p.Won.map G3.cs) :: nin A5.ow p.Voters x.2.2) (fun x => AV.agg (pollC p x.1 x.2.1)) := by
 have hns : p.Net.size ≤ 1048576 := Nat.le_trans hs.net D1
 have hv := hs.voters.1
 have hw := hs.won
 refine E1 Tryz.func24 rfl Tryz.ntmps24 rfl ?_
 refine R3 ?_
 intro b1
 refine R1 ?_
 intro b2
 refine R2 ?_
 refine K7 _ 11 (.pure 0 (.pure 1 (.pure 3 (.pure 4 (.pure 6 (.pure 7 (.e2 2 (.pure 5 (.e2 8 (.pure 9 (.e1 10 .nil)) 10 (.e1 8 (.pure 9 .nil)))) 10 (.e1 2 (.pure 5 (.e1 8 (.pure 9 .nil))))))))))) qz8 qz8 rfl Q0 ?_
 refine R3 ?_
 refine M6 rfl rfl rfl (fun ext => O4 _ 1 rfl (A0 rfl) rfl C2 B1 rfl rfl) ?_
 refine R2 ?_
 refine Y8 ?_ ?_
 ·refine C4 rfl rfl rfl (G6 2 (fun _ => rfl) (E6 [] rfl Tryz.call41 rfl (AI0 _ W1) (A1 (A0 rfl) A3) rfl)) (fun a _ => qz2) ?_
  intro x7 ok7
  have one_x7 := ok7.2
  replace ok7 := ok7.1
  refine M6 rfl rfl rfl (fun ext => B3 rfl Tryz.call42 rfl (f7 p.Net hns) (A1 (A0 rfl) A3)) ?_
  refine Y8 ?_ ?_
  ·refine C4 rfl rfl rfl (G6 3 (fun _ => rfl) (E6 [] rfl Tryz.call43 rfl (AC2 _ W1) (A1 (A0 rfl) A3) rfl)) (fun a _ => qz2) ?_
   intro x13 ok13
   have one_x13 := ok13.2
   replace ok13 := ok13.1
   refine M6 rfl rfl rfl (fun ext => I3 (places := #[(0, 1), (1, 4), (5, 1)]) rfl E4 Tryz.zeroValue31 (fun w => by kernel_rfl) rfl (B7 (A0 rfl) (F4 one_x7) (B7 (A0 rfl) (F2 _) (B7 (A0 rfl) (F4 one_x13) I0))) rfl) ?_
   refine R1 ?_
   refine C4 rfl rfl rfl (G4 rfl Tryz.zeroValue31 rfl) (fun a _ => qz2) ?_
   intro b3 _
   refine R12 ?_
   refine AWP.le (C7 [4, 0, 0, 0, 0] rfl) ?_
   refine S3 [(2, _), (3, _), (17, _)] [] (fun (i : Nat) (xs : List Value) => i ≤ p.Voters.length ∧ xs.length = i) (fun (i : Nat) (xs : List Value) => [.box b3 31 (pollC p x7 x13), .box b2 31 (List.map zeroA (Value.agg #[Value.slice none 0 0, Value.int IntKind.i64 0, Value.slice none 0 0, Value.int IntKind.i64 0, Value.slice none 0 0, Value.slice none 0 0]).cells.toList), .box b1 31 p.cs, .arr x7 40 5 (nrows A5.ocs (p.Voters.take i) xs ++ (p.Voters.drop i).map A5.cs), .arr x13 56 2 (p.Won.map G3.cs)] ++ (nin A5.ow (p.Voters.take i) xs)) (fun (i : Nat) (xs : List Value) => [(18, AV.int i)]) (fun (i : Nat) (xs : List Value) => p.Voters.length - i) (0) ([]) ?_ (N7 B6 ⟨rfl, rfl, rfl, rfl, trivial⟩) ?_
   ·exact ⟨Nat.zero_le _, rfl⟩
   intro i xs hinv
   refine f5 (List.append_nil _) ?_
   refine R5 ?_
   refine A6 (A0 rfl) ?_ ?_
   ·intro h19
    have k19 := of_decide_eq_true h19; try simp only [A4] at k19
    have hlt : i < p.Voters.length := by omega
    obtain ⟨x, hx⟩ := F8 hlt
    have hxy := hs.voters.2 x (D9 hx)
    have hrow := Ae1 hx hinv.2
    refine R8 ?_
    refine K1 _ [(0, false), (1, false), (2, false), (3, false), (4, false), (5, false), (6, false), (7, false), (8, false), (9, true)] qz8 qz8 rfl (U0 5) ?_
    refine R6 ?_
    refine M5 rfl rfl rfl (fun ext => L3 3 rfl B0 B4 (A0 rfl) rfl (A0 rfl) qz6 AW1) ?_
    refine M5 rfl rfl rfl (fun ext => J1 3 rfl D2 rfl I6 (A0 rfl) rfl rfl qz1) ?_
    refine M5 rfl rfl rfl (fun ext => K0 3 rfl (A0 rfl) rfl S6 qz1 rfl) ?_
    refine N1 rfl rfl rfl (G6 5 (fun _ => rfl) (AK4 5 (E6 [] rfl Tryz.call44 rfl (p8 x.Yes qz6) (A1 (A0 rfl) A3) rfl))) (fun a _ => qz2) ?_
    intro x30 ok30
    have one_x30 := ok30.2
    replace ok30 := ok30.1
    refine R1 ?_
    refine A2 rfl (L3 3 rfl B0 B4 (A0 rfl) rfl (A0 rfl) qz6 AW1) ?_
    refine A2 rfl (J1 3 rfl D2 rfl I6 (A0 rfl) rfl rfl qz1) ?_
    refine T9 3 rfl rfl rfl (A0 rfl) (A0 rfl) (F4 one_x30) rfl I6 qz1 rfl ?_
    refine R1 ?_
    refine AWP.le (C7 [0, 0, 0, 0, 0, 0] rfl) ?_
    refine AWP.le (X6 5 (t := nin A5.ow (p.Voters.take (i + 1)) (xs ++ [x30])) (AX2 (ow := A5.ow) (x := x30) hx hinv.2)) ?_
    refine R4 ?_
    refine Q5 i xs (i + 1) (xs ++ [x30]) ?_ ?_ (Le.trans (C7 [0, 0, 0, 0, 0] rfl) (N7 (Eq.trans qz36 (List.append_nil _).symm) ⟨rfl, rfl, rfl, rfl, trivial⟩))
    ·exact ⟨by omega, by rw [H6, hinv.2]; rfl⟩
    omega
   intro h19
   have k19 := of_decide_eq_false h19; try simp only [A4] at k19
   have hge : i = p.Voters.length := qz6
   have hxs := hinv.2.trans hge
   rw [show p.Voters.take i = p.Voters from List.take_of_length_le qz6, show p.Voters.drop i = [] from List.drop_eq_nil_of_le qz6, List.map_nil, List.append_nil]
   refine R7 ?_
   exact j1 [3, 3] 3 (nin A5.ow p.Voters xs) [] (x7, x13, xs) (hxs) rfl (show List.Perm (nin A5.ow p.Voters xs) ((nin A5.ow p.Voters xs) ++ []) from Q1) B6 (H4 rfl (C3 (ys := _) 1 rfl rfl C8 C0 rfl))
  refine C4 rfl rfl rfl (G4 rfl Tryz.zeroValue31 rfl) (fun a _ => qz2) ?_
  intro b3 _
  refine R1 ?_
  refine C4 rfl rfl rfl (G6 4 (fun _ => rfl) (E6 [] rfl Tryz.call43 rfl (AC2 _ W1) (A1 (A0 rfl) A3) rfl)) (fun a _ => qz2) ?_
  intro x13 ok13
  have one_x13 := ok13.2
  replace ok13 := ok13.1
  refine M6 rfl rfl rfl (fun ext => I3 (places := #[(0, 1), (1, 4), (5, 1)]) rfl E4 Tryz.zeroValue31 (fun w => by kernel_rfl) rfl (B7 (A0 rfl) (F4 one_x7) (B7 (A0 rfl) (F2 _) (B7 (A0 rfl) (F4 one_x13) I0))) rfl) ?_
  refine R12 ?_
  refine AWP.le (C7 [3, 0, 0, 0, 0] rfl) ?_
  refine S3 [(2, _), (3, _), (17, _)] [] (fun (i : Nat) (xs : List Value) => i ≤ p.Voters.length ∧ xs.length = i) (fun (i : Nat) (xs : List Value) => [.box b3 31 (pollC p x7 x13), .box b2 31 (List.map zeroA (Value.agg #[Value.slice none 0 0, Value.int IntKind.i64 0, Value.slice none 0 0, Value.int IntKind.i64 0, Value.slice none 0 0, Value.slice none 0 0]).cells.toList), .box b1 31 p.cs, .arr x7 40 5 (nrows A5.ocs (p.Voters.take i) xs ++ (p.Voters.drop i).map A5.cs), .arr x13 56 2 (p.Won.map G3.cs)] ++ (nin A5.ow (p.Voters.take i) xs)) (fun (i : Nat) (xs : List Value) => [(18, AV.int i)]) (fun (i : Nat) (xs : List Value) => p.Voters.length - i) (0) ([]) ?_ (N7 B6 ⟨rfl, rfl, rfl, rfl, trivial⟩) ?_
  ·exact ⟨Nat.zero_le _, rfl⟩
  intro i xs hinv
  refine f5 (List.append_nil _) ?_
  refine R5 ?_
  refine A6 (A0 rfl) ?_ ?_
  ·intro h19
   have k19 := of_decide_eq_true h19; try simp only [A4] at k19
   have hlt : i < p.Voters.length := by omega
   obtain ⟨x, hx⟩ := F8 hlt
   have hxy := hs.voters.2 x (D9 hx)
   have hrow := Ae1 hx hinv.2
   refine R8 ?_
   refine K1 _ [(0, false), (1, false), (2, false), (3, false), (4, false), (5, false), (6, false), (7, false), (8, false), (9, true)] qz8 qz8 rfl (U0 5) ?_
   refine R6 ?_
   refine M5 rfl rfl rfl (fun ext => L3 3 rfl B0 B4 (A0 rfl) rfl (A0 rfl) qz6 AW1) ?_
   refine M5 rfl rfl rfl (fun ext => J1 3 rfl D2 rfl I6 (A0 rfl) rfl rfl qz1) ?_
   refine M5 rfl rfl rfl (fun ext => K0 3 rfl (A0 rfl) rfl S6 qz1 rfl) ?_
   refine N1 rfl rfl rfl (G6 5 (fun _ => rfl) (AK4 5 (E6 [] rfl Tryz.call44 rfl (p8 x.Yes qz6) (A1 (A0 rfl) A3) rfl))) (fun a _ => qz2) ?_
   intro x30 ok30
   have one_x30 := ok30.2
   replace ok30 := ok30.1
   refine R1 ?_
   refine A2 rfl (L3 3 rfl B0 B4 (A0 rfl) rfl (A0 rfl) qz6 AW1) ?_
   refine A2 rfl (J1 3 rfl D2 rfl I6 (A0 rfl) rfl rfl qz1) ?_
   refine T9 3 rfl rfl rfl (A0 rfl) (A0 rfl) (F4 one_x30) rfl I6 qz1 rfl ?_
   refine R1 ?_
   refine AWP.le (C7 [0, 0, 0, 0, 0, 0] rfl) ?_
   refine AWP.le (X6 5 (t := nin A5.ow (p.Voters.take (i + 1)) (xs ++ [x30])) (AX2 (ow := A5.ow) (x := x30) hx hinv.2)) ?_
   refine R4 ?_
   refine Q5 i xs (i + 1) (xs ++ [x30]) ?_ ?_ (Le.trans (C7 [0, 0, 0, 0, 0] rfl) (N7 (Eq.trans qz36 (List.append_nil _).symm) ⟨rfl, rfl, rfl, rfl, trivial⟩))
   ·exact ⟨by omega, by rw [H6, hinv.2]; rfl⟩
   omega
  intro h19
  have k19 := of_decide_eq_false h19; try simp only [A4] at k19
  have hge : i = p.Voters.length := qz6
  have hxs := hinv.2.trans hge
  rw [show p.Voters.take i = p.Voters from List.take_of_length_le qz6, show p.Voters.drop i = [] from List.drop_eq_nil_of_le qz6, List.map_nil, List.append_nil]
  refine R7 ?_
  exact j1 [3, 3] 3 (nin A5.ow p.Voters xs) [] (x7, x13, xs) (hxs) rfl (show List.Perm (nin A5.ow p.Voters xs) ((nin A5.ow p.Voters xs) ++ []) from Q1) B6 (H4 rfl (C3 (ys := _) 1 rfl rfl C8 C0 rfl))
 refine C4 rfl rfl rfl (G4 rfl Tryz.zeroValue31 rfl) (fun a _ => qz2) ?_
 intro b3 _
 refine R1 ?_
 refine C4 rfl rfl rfl (G6 3 (fun _ => rfl) (E6 [] rfl Tryz.call41 rfl (AI0 _ W1) (A1 (A0 rfl) A3) rfl)) (fun a _ => qz2) ?_
 intro x7 ok7
 have one_x7 := ok7.2
 replace ok7 := ok7.1
 refine M6 rfl rfl rfl (fun ext => B3 rfl Tryz.call42 rfl (f7 p.Net hns) (A1 (A0 rfl) A3)) ?_
 refine R1 ?_
 refine C4 rfl rfl rfl (G6 4 (fun _ => rfl) (E6 [] rfl Tryz.call43 rfl (AC2 _ W1) (A1 (A0 rfl) A3) rfl)) (fun a _ => qz2) ?_
 intro x13 ok13
 have one_x13 := ok13.2
 replace ok13 := ok13.1
 refine M6 rfl rfl rfl (fun ext => I3 (places := #[(0, 1), (1, 4), (5, 1)]) rfl E4 Tryz.zeroValue31 (fun w => by kernel_rfl) rfl (B7 (A0 rfl) (F4 one_x7) (B7 (A0 rfl) (F2 _) (B7 (A0 rfl) (F4 one_x13) I0))) rfl) ?_
 refine R12 ?_
 refine AWP.le (C7 [2, 0, 0, 0, 0] rfl) ?_
 refine S3 [(2, _), (3, _), (17, _)] [] (fun (i : Nat) (xs : List Value) => i ≤ p.Voters.length ∧ xs.length = i) (fun (i : Nat) (xs : List Value) => [.box b3 31 (pollC p x7 x13), .box b2 31 (List.map zeroA (Value.agg #[Value.slice none 0 0, Value.int IntKind.i64 0, Value.slice none 0 0, Value.int IntKind.i64 0, Value.slice none 0 0, Value.slice none 0 0]).cells.toList), .box b1 31 p.cs, .arr x7 40 5 (nrows A5.ocs (p.Voters.take i) xs ++ (p.Voters.drop i).map A5.cs), .arr x13 56 2 (p.Won.map G3.cs)] ++ (nin A5.ow (p.Voters.take i) xs)) (fun (i : Nat) (xs : List Value) => [(18, AV.int i)]) (fun (i : Nat) (xs : List Value) => p.Voters.length - i) (0) ([]) ?_ (N7 B6 ⟨rfl, rfl, rfl, rfl, trivial⟩) ?_
 ·exact ⟨Nat.zero_le _, rfl⟩
 intro i xs hinv
 refine f5 (List.append_nil _) ?_
 refine R5 ?_
 refine A6 (A0 rfl) ?_ ?_
 ·intro h19
  have k19 := of_decide_eq_true h19; try simp only [A4] at k19
  have hlt : i < p.Voters.length := by omega
  obtain ⟨x, hx⟩ := F8 hlt
  have hxy := hs.voters.2 x (D9 hx)
  have hrow := Ae1 hx hinv.2
  refine R8 ?_
  refine K1 _ [(0, false), (1, false), (2, false), (3, false), (4, false), (5, false), (6, false), (7, false), (8, false), (9, true)] qz8 qz8 rfl (U0 5) ?_
  refine R6 ?_
  refine M5 rfl rfl rfl (fun ext => L3 3 rfl B0 B4 (A0 rfl) rfl (A0 rfl) qz6 AW1) ?_
  refine M5 rfl rfl rfl (fun ext => J1 3 rfl D2 rfl I6 (A0 rfl) rfl rfl qz1) ?_
  refine M5 rfl rfl rfl (fun ext => K0 3 rfl (A0 rfl) rfl S6 qz1 rfl) ?_
  refine N1 rfl rfl rfl (G6 5 (fun _ => rfl) (AK4 5 (E6 [] rfl Tryz.call44 rfl (p8 x.Yes qz6) (A1 (A0 rfl) A3) rfl))) (fun a _ => qz2) ?_
  intro x30 ok30
  have one_x30 := ok30.2
  replace ok30 := ok30.1
  refine R1 ?_
  refine A2 rfl (L3 3 rfl B0 B4 (A0 rfl) rfl (A0 rfl) qz6 AW1) ?_
  refine A2 rfl (J1 3 rfl D2 rfl I6 (A0 rfl) rfl rfl qz1) ?_
  refine T9 3 rfl rfl rfl (A0 rfl) (A0 rfl) (F4 one_x30) rfl I6 qz1 rfl ?_
  refine R1 ?_
  refine AWP.le (C7 [0, 0, 0, 0, 0, 0] rfl) ?_
  refine AWP.le (X6 5 (t := nin A5.ow (p.Voters.take (i + 1)) (xs ++ [x30])) (AX2 (ow := A5.ow) (x := x30) hx hinv.2)) ?_
  refine R4 ?_
  refine Q5 i xs (i + 1) (xs ++ [x30]) ?_ ?_ (Le.trans (C7 [0, 0, 0, 0, 0] rfl) (N7 (Eq.trans qz36 (List.append_nil _).symm) ⟨rfl, rfl, rfl, rfl, trivial⟩))
  ·exact ⟨by omega, by rw [H6, hinv.2]; rfl⟩
  omega
 intro h19
 have k19 := of_decide_eq_false h19; try simp only [A4] at k19
 have hge : i = p.Voters.length := qz6
 have hxs := hinv.2.trans hge
 rw [show p.Voters.take i = p.Voters from List.take_of_length_le qz6, show p.Voters.drop i = [] from List.drop_eq_nil_of_le qz6, List.map_nil, List.append_nil]
 refine R7 ?_
 exact j1 [3, 3] 3 (nin A5.ow p.Voters xs) [] (x7, x13, xs) (hxs) rfl (show List.Perm (nin A5.ow p.Voters xs) ((nin A5.ow p.Voters xs) ++ []) from Q1) B6 (H4 rfl (C3 (ys := _) 1 rfl rfl C8 C0 rfl))
end Go.Proofs.YtkibefcceekmnaaGreatDoor
namespace Go.M
open Go.AV
def taI (t : Int) : Str := 97 :: l4 t
def tyI (t : Int) : Str := 121 :: l4 t
theorem Ah1 : ∀ {l : List Int} {lo hi : Int}, adj ltI l = true → (∀ x ∈ l, lo ≤ x ∧ x ≤ hi) → l = [] ∨ (l.length : Int) ≤ hi - lo + 1
  | [], lo, hi, _, _ => .inl rfl
  | x :: l, lo, hi, h, hb => by
    have hx := hb x List.mem_cons_self
    refine .inr ?_
    rcases Ah1 (l := l) (lo := x + 1) (hi := hi) (Al2 h) (fun y hy => ⟨by have h9 := Ac9 AH9 h y hy; unfold ltI at h9; have := of_decide_eq_true h9; omega, (hb y (List.mem_cons_of_mem _ hy)).2⟩) with e | e
    · subst e; show (1 : Int) ≤ _; omega
    · rw [J9]; omega
theorem BB7 {l : List Int} {n : Nat} (h : T4 l (n : Int) = true) : l.length ≤ n := by
  unfold T4 at h
  rw [Bool.and_eq_true, List.all_eq_true] at h
  rcases Ah1 (lo := 0) (hi := (n : Int) - 1) h.2 (fun x hx => K4.1 (h.1 x hx)) with e | e
  · subst e; exact Nat.zero_le _
  · omega
theorem V8 {p : TPoll} (g : GP p) : PSz p := by
  have hn := d9 g.net
  have hh := (N2 g.net).2.1
  refine ⟨by omega, ⟨by have := g.len; omega, fun x hx => ?_⟩, by have := g.won; omega⟩
  obtain ⟨i, hi⟩ := List.getElem?_of_mem hx
  have h1 := g.voters i x hi
  have h2 : T4 x.Yes (p.Net.Homes.length : Int) = true := (K3.1 h1).2.2.1
  have h3 := BB7 (n := p.Net.Homes.length) h2
  omega
theorem AG2 {p : TPoll} {v : Int} : hasV p v = true ↔ GP p ∧ H2 p.Net v = true := by
  unfold hasV; rw [Bool.and_eq_true, U1]
theorem Z5 {p : TPoll} {v : Int} (h : hasV p v = true) : p.Voters[v.toNat]? = some (C9 p v) := by
  obtain ⟨g, hn⟩ := AG2.1 h
  exact (n6 g hn).2.2.1
theorem s4 {p : TPoll} {v : Int} (h : hasV p v = true) : 0 ≤ v ∧ v < p.Voters.length ∧ p.Voters.length ≤ 5 := by
  obtain ⟨g, hn⟩ := AG2.1 h
  have h1 := n6 g hn
  have h2 := g.len
  have h3 := (N2 g.net).2.1
  omega
theorem Aa7 {p : TPoll} {v : Int} (h : hasV p v = true) : 0 ≤ (C9 p v).Term ∧ (C9 p v).Term ≤ 200 := by
  obtain ⟨g, hn⟩ := AG2.1 h
  exact (K3.1 (c1 g hn)).1
theorem AR3 {p : TPoll} {v : Int} (hc : (!(!hasV p v)) = true) : hasV p v = true := by simpa using hc
theorem AL0 {p : TPoll} {v : Int} {b : Bool} (hc : (!(!hasV p v || b)) = true) : hasV p v = true := by
  cases h : hasV p v with
  | true => rfl
  | false => rw [h] at hc; cases hc
theorem An5 {p : TPoll} {v : Int} (h : ((!hasV p v || !(C9 p v).Up) || ((C9 p v).Term == 200)) = true) : ¬ (e8 p v = true) := by
  unfold e8
  intro k
  rw [Bool.and_eq_true, Bool.and_eq_true, bne_iff_ne] at k
  rw [k.1.1, k.1.2, beq_eq_false_iff_ne.2 k.2] at h
  cases h
theorem An6 {p : TPoll} {v : Int} (h : ((!hasV p v || !(C9 p v).Up) || ((C9 p v).Term == 200)) = false) : e8 p v = true := by
  rw [Bool.or_eq_false_iff, Bool.or_eq_false_iff, Bool.not_eq_false', Bool.not_eq_false', beq_eq_false_iff_ne] at h
  unfold e8
  rw [h.1.1, h.1.2, bne_iff_ne.2 h.2]; rfl
theorem AV6 {p : TPoll} {v : Int} (h : e8 p v = true) : hasV p v = true ∧ (C9 p v).Up = true ∧ (C9 p v).Term ≠ 200 := by
  unfold e8 at h
  rw [Bool.and_eq_true, Bool.and_eq_true, bne_iff_ne] at h
  exact ⟨h.1.1, h.1.2, h.2⟩
end Go.M
namespace Go.Proofs.YtkibefcceekmnaaGreatDoor
open Go Go.AV Go.M
attribute [local irreducible] OpW OpA OpS AWP D3 P2 F0 OpE RetOk K2 M3 Le Ev I4 Q8 Int.tmod Int.tdiv IntKind.wrap
theorem Aw5 {P : Program} {G : Nat → Prop} {n : Nat} {own : List Go.AV.Own} {o : Oper} {E : F3} {x y : AV} (hw : ∀ R v, x.den R v → y.den R v) (h : OpW P G n own o E x) : OpW P G n own o E y := by
  unfold OpW at h ⊢
  exact fun w0 R0 R a w h1 h2 h3 => Oper.wp_mono2 (fun a' w' ⟨v, R', e0, e1, e2, e3⟩ => ⟨v, R', e0, e1, e2, hw R' v e3⟩) (fun _ _ _ h => h) (h w0 R0 R a w h1 h2 h3)
theorem agg_wP {xs ys : List AV} (hl : xs.length = ys.length) (h : ∀ (i : Nat) (x y : AV), xs[i]? = some x → ys[i]? = some y → ∀ R v, x.den R v → y.den R v) (R : D6) (v : Value) (hv : (AV.agg xs).den R v) : (AV.agg ys).den R v := by
  obtain ⟨vs, e, hl2, hd⟩ := hv
  refine ⟨vs, e, hl2.trans hl, fun i u y hu hy => ?_⟩
  have hi : i < xs.length := by rw [hl]; exact (List.getElem?_eq_some_iff.1 hy).1
  obtain ⟨h1, h2⟩ := hd i u _ hu (List.getElem?_eq_getElem hi)
  exact ⟨h i _ y (List.getElem?_eq_getElem hi) hy _ _ h1, h2⟩
theorem BB8 {u l : Bool} {t f : Int} (R : D6) (v : Value) (h : (AV.agg [AV.bool u, AV.int t, AV.int f, AV.nils, AV.bool l]).den R v) : (AV.agg (A5.cs ⟨u, t, f, [], l⟩)).den R v := by
  refine agg_wP (xs := [AV.bool u, AV.int t, AV.int f, AV.nils, AV.bool l]) (ys := A5.cs ⟨u, t, f, [], l⟩) rfl (fun i x z hx hz => ?_) R v h
  rcases i with _ | _ | _ | _ | _ | i
  all_goals first
    | (injection hx with hx; injection hz with hz; subst hx; subst hz; first | exact fun _ _ h => h | exact Af1)
    | (cases hx)
theorem AC3 (p : TPoll) (hs : PSz p) : F0 Tryz.prog 24 [AV.agg p.cs] [] (fun _ : Value × Value => True) (fun x => [.arr x.1 40 5 (p.Voters.map A5.cs), .arr x.2 56 2 (p.Won.map G3.cs)]) (fun x => AV.agg (pollC p x.1 x.2)) :=
  p5 (fun x => (x.1, x.2.1)) (fun x => nin A5.ow p.Voters x.2.2) (fun x => [.arr x.1 40 5 (nrows A5.ocs p.Voters x.2.2), .arr x.2.1 56 2 (p.Won.map G3.cs)]) (AR2 p hs) (fun _ _ => trivial) (fun _ _ => G5) (fun x _ => List.perm_append_comm (l₁ := [_, _])) (fun _ _ => M7) (fun x hx => AK6 ⟨rfl, rfl, rfl, Ag5 (fun q y h => A5.lcM q y h) hx fun o ho => ho⟩ (AK6 ⟨rfl, rfl, rfl, F5⟩ AQ3))
def AS3 (n : D5) (v w : Value) : List AV := [AV.is v, AV.int n.Now, ints n.Homes, AV.int n.Far, AV.list 4 (n.Under.map A7.cs), AV.is w]
theorem AX5 (b : Nat) (n : D5) (v w : Value) (rows wr : List (List AV)) (a c : Int) (s : Str) (hg : goodNet n = true) (hs : s.length ≤ 1000) : F0 Tryz.prog 70 [AV.ptr b 1, AV.int a, AV.int c, AV.str s] [.box b 31 (AS3 n v w), .arr v 40 5 rows, .arr w 56 2 wr] (fun _ : Unit => True) (fun _ => [.box b 31 (AS3 (Y9 n a c s) v w), .arr v 40 5 rows, .arr w 56 2 wr]) (fun _ => AV.tup []) := by
 refine E1 Tryz.func70 rfl Tryz.ntmps70 rfl ?_
 refine R4 ?_
 refine A2 rfl (O4 _ 0 rfl (A0 rfl) rfl C2 B1 rfl rfl) ?_
 refine R3 ?_
 refine A2 rfl (B3 rfl Tryz.call96 rfl (BA6 n a c s hg hs) (A1 (A0 rfl) (A1 (A0 rfl) (A1 (A0 rfl) (A1 (A0 rfl) A3))))) ?_
 refine R4 ?_
 intro b8
 refine R7 ?_
 refine A6 (A0 rfl) ?_ ?_
 ·intro h20
  rw [show Y9 n a c s = (P3 n a c s).1 from if_pos h20]
  refine R4 ?_
  refine S1 1 rfl rfl rfl (A0 rfl) (A0 rfl) (F2 _) rfl B1 rfl ?_
  refine R1 ?_
  exact F1 [1, 1, 1] (()) (trivial) rfl B6 (L7 rfl D1 E3)
 intro h20
 rw [show Y9 n a c s = n from if_neg (by rw [h20]; exact Bool.false_ne_true)]
 refine R1 ?_
 exact F1 [1, 1, 1] (()) (trivial) rfl B6 (L7 rfl D1 E3)
theorem AL1 (p : TPoll) (v : Int) (hs : PSz p) : D3 Tryz.prog 69 [AV.agg p.cs, AV.int v] (AV.bool (hasV p v)) := by
  have hns : p.Net.size ≤ 1048576 := Nat.le_trans hs.net D1
  refine C6 Tryz.func69 rfl Tryz.ntmps69 rfl ?_
  refine R3 ?_
  intro b2
  refine R5 ?_
  refine A2 rfl (B3 rfl Tryz.call7 rfl (p9 p hs) (A1 (A0 rfl) A3)) ?_
  refine R2 ?_
  refine U5 rfl (fun hc => O4 _ 0 rfl (B9 rfl hc) rfl C2 B1 rfl rfl) ?_
  refine R1 ?_
  refine U5 rfl (fun hc => B3 rfl Tryz.call23 rfl (j8 p.Net v hns) (A1 (B9 rfl hc) (A1 (B9 rfl hc) A3))) ?_
  refine R4 ?_
  exact H5 rfl (A8 rfl B6)
theorem Aq4 (p : TPoll) (v : Int) (hs : PSz p) : F0 Tryz.prog 45 [AV.wt readW (AV.agg p.cs), AV.int v] [] (fun _ : Value × Value => True) (fun x => [.arr x.1 40 5 ((P8 taI p v).1.Voters.map A5.cs), .arr x.2 56 2 ((P8 taI p v).1.Won.map G3.cs)]) (fun x => AV.tup [AV.agg (pollC (P8 taI p v).1 x.1 x.2), AV.bool (P8 taI p v).2]) := by
 have hv1 := hs.voters.1
 refine E1 Tryz.func45 rfl Tryz.ntmps45 rfl ?_
 refine AWP.le (AK5 (t := 0) rfl) ?_
 refine R3 ?_
 intro b2
 refine R1 ?_
 intro b4
 refine R7 ?_
 refine A2 rfl (B3 rfl Tryz.call69 rfl (AL1 p v hs) (A1 (A0 rfl) (A1 (A0 rfl) A3))) ?_
 refine R5 ?_
 refine J6 rfl (fun hc => H3 rfl B0 B4 (B9 rfl hc) (B9 rfl hc) (Z5 (AR3 hc)) (by have h9 := s4 (AR3 hc); omega)) ?_
 refine R8 ?_
 refine J6 rfl (fun hc => H3 rfl B0 B4 (B9 rfl hc) (B9 rfl hc) (Z5 (AL0 hc)) (by have h9 := s4 (AL0 hc); omega)) ?_
 refine R5 ?_
 refine A6 (A0 rfl) ?_ ?_
 ·intro h30
  rw [show P8 taI p v = (X2, false) from if_neg (An5 h30)]
  refine R7 ?_
  refine J3 0 2 1 rfl rfl M7 ?_
  refine J3 0 4 4 rfl rfl M7 ?_
  refine K8 40 5 ?_
  refine K8 56 2 ?_
  exact F1 [1, 0] ((Value.slice none 0 0), (Value.slice none 0 0)) (trivial) rfl B6 (L7 rfl D1 (B2 (C3 (ys := _) 2 rfl rfl C8 C0 rfl) (B2 (A8 rfl B6) E3)))
 intro h30
 have hm : e8 p v = true := An6 h30
 rw [show P8 taI p v = (netP (g8 p v (n2 p v)) (sendAll p.Net v (taI ((C9 p v).Term + 1)) p.Voters.length), true) from if_pos hm]
 obtain ⟨hh, hup, hte⟩ := AV6 hm
 obtain ⟨hgp, hnd⟩ := AG2.1 hh
 have hx := Z5 hh
 have hr := s4 hh
 have htm := Aa7 hh
 refine R4 ?_
 refine E5 [] rfl rfl rfl rfl Tryz.call24 rfl (AC3 p hs) (A1 (A0 rfl) A3) rfl ?_
 intro x33 ok33
 refine R1 ?_
 intro b6
 refine R7 ?_
 refine A2 rfl (H3 rfl B0 B4 (A0 rfl) (A0 rfl) hx qz6) ?_
 refine R15 ?_
 refine A2 rfl (L3 1 rfl B0 B4 (A0 rfl) rfl (A0 rfl) qz6 Ab8) ?_
 refine V2 1 rfl rfl rfl (A0 rfl) (A0 rfl) (F2 _) rfl B4 rfl Ab8 ?_
 refine R3 ?_
 refine f5 (by first | (simp only [A5.ocs, pick, AX7, AS4, AG9, AC5, AL6, List.nil_append, AX8, AX9, List.append_nil, AA6, List.take_zero, AL7, List.drop_zero]; exact rfl) | exact rfl) ?_
 refine R7 ?_
 refine AWP.le (C7 [0, 0, 0] rfl) ?_
 refine J0 [(1, _), (4, _), (5, _), (6, _), (7, _), (52, _)] _ (fun (i : Nat) => i ≤ p.Voters.length) (fun (i : Nat) => [.box b6 31 (AS3 (sendAll p.Net v (taI ((C9 p v).Term + 1)) i) x33.1 x33.2), .arr x33.1 40 5 ((p.Voters.set v.toNat (n2 p v)).map A5.cs), .arr x33.2 56 2 (p.Won.map G3.cs)]) (fun (i : Nat) => [(53, AV.int i)]) (fun (i : Nat) => p.Voters.length - i) (0) ?_ (N7 (by (rw [List.map_set]; rfl)) ⟨rfl, rfl, rfl, rfl, rfl, rfl, rfl, trivial⟩) ?_
 ·exact Nat.zero_le _
 intro i hinv
 refine R5 ?_
 refine A6 (A0 rfl) ?_ ?_
 ·intro h54
  have k54 := of_decide_eq_true h54; try simp only [A4] at k54
  have hlt : i < p.Voters.length := (by simp only [A4, List.length_set, decide_eq_true_eq] at h54; omega)
  have hsa := (u9 hgp.net v (taI ((C9 p v).Term + 1)) i).1
  have hil := An3 (n := (C9 p v).Term + 1) qz6
  refine R13 ?_
  refine A2 rfl (V7 rfl Tryz.call71 rfl (AI4 ((C9 p v).Term + 1) qz6) (M0 _) (F6 (Ak6 5 rfl AJ1 (evb (A0 rfl))) N3)) ?_
  refine A2 rfl (AM0 rfl (W5 (l := [97]) rfl) (A0 rfl) (by show [97].length + (l4 ((C9 p v).Term + 1)).length ≤ _; simp; omega)) ?_
  refine E5 [0, 0, 0] rfl rfl rfl rfl Tryz.call70 rfl (AX5 b6 (sendAll p.Net v (taI ((C9 p v).Term + 1)) i) x33.1 x33.2 _ _ v (i : Int) (taI ((C9 p v).Term + 1)) hsa (by show (97 :: l4 ((C9 p v).Term + 1)).length ≤ _; simp; omega)) (A1 (A0 rfl) (A1 (A0 rfl) (A1 (A0 rfl) (A1 (A0 rfl) A3)))) rfl ?_
  intro x62 ok62
  refine R5 ?_
  refine L0 i (i + 1) ?_ ?_ (Le.trans (C7 [0, 0, 0] rfl) (N7 B6 ⟨rfl, rfl, rfl, rfl, rfl, rfl, rfl, trivial⟩))
  ·exact qz6
  omega
 intro h54
 have k54 := of_decide_eq_false h54; try simp only [A4] at k54
 have hie : i = p.Voters.length := (by simp only [A4, List.length_set, decide_eq_false_iff_not] at h54; omega)
 subst hie
 refine R8 ?_
 exact F1 [1, 1] (x33.1, x33.2) (trivial) rfl B6 (L7 rfl D1 (B2 (C3 (ys := _) 3 rfl rfl C8 C0 rfl) (B2 (A8 rfl B6) E3)))
theorem n8 {own : List Go.AV.Own} {q : TPoll} {v w : Value} (h1 : Go.AV.Own.arr v 40 5 (q.Voters.map A5.cs) ∈ own) (h2 : Go.AV.Own.arr w 56 2 (q.Won.map G3.cs) ∈ own) : c8 own (AV.agg (pollC q v w)) (AV.agg q.cs) := W6 (D8 (I5 h1 F5) (D8 G5 (D8 G5 (D8 G5 (D8 G5 (D8 (I5 h2 F5) T1))))))
theorem j5 (p : TPoll) (hs : PSz p) : D3 Tryz.prog 24 [AV.agg p.cs] (AV.agg p.cs) := L8 (AC3 p hs) fun x _ => n8 List.mem_cons_self (List.mem_cons_of_mem _ List.mem_cons_self)
theorem An7 (p : TPoll) (v : Int) (hs : PSz p) : D3 Tryz.prog 45 [AV.wt readW (AV.agg p.cs), AV.int v] (AV.tup [AV.agg (P8 taI p v).1.cs, AV.bool (P8 taI p v).2]) := L8 (Aq4 p v hs) fun x _ => AK2 (D8 (n8 List.mem_cons_self (List.mem_cons_of_mem _ List.mem_cons_self)) X5)
theorem Ai6 (p : TPoll) (v : Int) (hs : PSz p) : F0 Tryz.prog 46 [AV.agg p.cs, AV.int v] [] (fun _ : Value × Value => True) (fun x => [.arr x.1 40 5 ((S9 p v).1.Voters.map A5.cs), .arr x.2 56 2 ((S9 p v).1.Won.map G3.cs)]) (fun x => AV.tup [AV.agg (pollC (S9 p v).1 x.1 x.2), AV.bool (S9 p v).2]) := by
 refine E1 Tryz.func46 rfl Tryz.ntmps46 rfl ?_
 refine R3 ?_
 intro b2
 refine R1 ?_
 intro b4
 refine R7 ?_
 refine A2 rfl (B3 rfl Tryz.call69 rfl (AL1 p v hs) (A1 (A0 rfl) (A1 (A0 rfl) A3))) ?_
 refine R2 ?_
 refine A6 (A0 rfl) ?_ ?_
 ·intro h11
  rw [show S9 p v = (X2, false) from if_neg (by simpa using h11)]
  refine R7 ?_
  refine J3 0 2 1 rfl rfl M7 ?_
  refine J3 0 4 4 rfl rfl M7 ?_
  refine K8 40 5 ?_
  refine K8 56 2 ?_
  exact F1 [1, 0] ((Value.slice none 0 0), (Value.slice none 0 0)) (trivial) rfl qz42 (L7 rfl D1 (B2 (C3 (ys := _) 2 rfl rfl C8 C0 rfl) (B2 (A8 rfl B6) E3)))
 intro h11
 have hh : hasV p v = true := (by simpa using h11)
 rw [show S9 p v = (g8 p v (fallV (C9 p v)), true) from if_pos hh]
 have hx := Z5 hh
 have hr := s4 hh
 refine R4 ?_
 refine E5 [] rfl rfl rfl rfl Tryz.call24 rfl (AC3 p hs) (A1 (A0 rfl) A3) rfl ?_
 intro x14 ok14
 refine R1 ?_
 intro b6
 refine R7 ?_
 refine A2 rfl (H3 rfl B0 B4 (A0 rfl) (A0 rfl) hx qz6) ?_
 refine R2 ?_
 intro b7
 refine R14 ?_
 refine A2 rfl (Aw5 BB8 (I3 (places := #[(0, 1), (1, 1), (2, 1), (3, 1), (4, 1)]) rfl D2 Tryz.zeroValue40 (fun w => by kernel_rfl) rfl (B7 (A0 rfl) (AJ9 _) (B7 (A0 rfl) (M9 _ _) (B7 (A0 rfl) (M9 _ _) I0))) rfl)) ?_
 refine A2 rfl (L3 2 rfl B0 B4 (A0 rfl) rfl (A0 rfl) qz6 Ab8) ?_
 refine V2 2 rfl rfl rfl (A0 rfl) (A0 rfl) (F2 _) rfl B4 rfl Ab8 ?_
 refine R8 ?_
 exact F1 [2, 2] (x14.1, x14.2) (trivial) rfl qz42 (L7 rfl D1 (B2 (C3 (ys := _) 4 rfl rfl C8 C0 rfl) (B2 (A8 rfl B6) E3)))
theorem Ae2 (p : TPoll) (v : Int) (hs : PSz p) : D3 Tryz.prog 46 [AV.agg p.cs, AV.int v] (AV.tup [AV.agg (S9 p v).1.cs, AV.bool (S9 p v).2]) := L8 (Ai6 p v hs) fun x _ => AK2 (D8 (n8 List.mem_cons_self (List.mem_cons_of_mem _ List.mem_cons_self)) X5)
end Go.Proofs.YtkibefcceekmnaaGreatDoor
