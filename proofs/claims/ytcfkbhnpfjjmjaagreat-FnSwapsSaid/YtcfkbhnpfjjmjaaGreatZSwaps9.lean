/- FnSwaps: for every drawn history and order, two neighbours that commute are exchanged as the reference exchanges them, a witness stays a witness, and exchanging twice gives the order back; deeds commute as the reference says, in either order. No condition. -/
import Derived.Test.YtcfkbhnpfjjmjaaGreatZSwaps8
set_option linter.unusedVariables false
set_option linter.unusedSimpArgs false
set_option maxRecDepth 100000
set_option maxHeartbeats 4000000
namespace Go.Proofs.YtcfkbhnpfjjmjaaGreat
open Go Go.AV Go.M
attribute [local irreducible] OpW OpA OpS AWP B9 J5 C8 OpE RetOk H1 I9 Le Ev F6 J9
theorem flatI0 : ∀ {v : List Int}, (v.map fun l => [AV.int l]).flatten = v.map AV.int
  | [] => rfl
  | x :: v => by rw [List.map_cons, List.flatten_cons, flatI0, List.map_cons]; rfl
theorem Z8 {v : List Int} {k : Int} {x : Int} (h : v[k.toNat]? = some x) : (v.map fun l => [AV.int l]).flatten[k.toNat * 1]? = some (AV.int x) := by
  rw [flatI0, Nat.mul_one, List.getElem?_map, h]; rfl
theorem Bn1 (h : List C5) (o : List Int) (k : Int) (hs : ∀ d ∈ h, d.size ≤ 1048576) (hl : h.length ≤ 1000) (hol : o.length ≤ 4194304) : C8 Tryz.prog 7 [AV.list 8 (h.map C5.cs), ints o, AV.int k] [] (fun _ : Value => True) (fun v => [.arr v 3 1 ((swapR h o k).1.map fun n => [AV.int n])]) (fun v => AV.tup [AV.is v, AV.bool (swapR h o k).2]) := by
 refine C3 Tryz.func7 rfl Tryz.ntmps7 rfl ?_
 refine R2 ?_
 refine A4 rfl (D4 rfl F4) ?_
 refine R7 ?_
 refine A4 rfl (B2 rfl Tryz.call24 rfl (AQ7 _ _ k0 T0) (A1 (A0 rfl) (A1 (A0 rfl) A7))) ?_
 refine R6 ?_
 refine P4 rfl (fun hc => B2 rfl Tryz.call25 rfl (u5 _ _ _) (A1 (B1 rfl hc) (A1 D8 (A1 (B1 rfl hc) A7)))) ?_
 refine R3 ?_
 refine A8 (A0 rfl) ?_ ?_
 ·intro h22
  have he : swapR h o k = ([], false) := qz149
  rw [he]
  refine R2 ?_
  refine A4 rfl (D4 rfl F4) ?_
  refine R3 ?_
  refine W7 3 1 ?_
  exact G1 [0] (Value.slice none 0 0) (trivial) rfl w7 (N4 rfl D0 (B6 (A6 rfl B0) (B6 (A6 rfl B0) E8)))
 intro h22
 have hcc : Y2 h o = true ∧ within k 0 ((o.length : Int) - 2) = true := qz164
 have hkr : 0 ≤ k ∧ k ≤ (o.length : Int) - 2 := qz163
 obtain ⟨n, hn⟩ : ∃ n : Nat, k = (n : Int) := ⟨k.toNat, by omega⟩
 subst hn
 obtain ⟨o1, o2, o3⟩ := AC4.1 hcc.1
 have hga := Ad4 (o := o) (n := n) qz8
 have hgb := Ad4 (o := o) (n := n + 1) qz8
 have hra := o1 _ (C6 hga)
 have hrb := o1 _ (C6 hgb)
 have hda := o0 hra
 have hdb := o0 hrb
 have hsa := hs _ hda.1
 have hsb := hs _ hdb.1
 have hea := (Y9 (f8 o3 hda.1)).2
 have heb := (Y9 (f8 o3 hdb.1)).2
 refine R2 ?_
 refine P5 _ 18 (.pure 0 (.pure 1 (.pure 2 (.pure 3 (.pure 4 (.pure 5 (.pure 6 (.pure 7 (.pure 8 (.pure 9 (.pure 10 (.pure 11 (.pure 12 (.pure 13 (.pure 14 (.e2 15 (.e1 16 (.e1 17 .nil)) 16 (.e1 15 (.e1 17 .nil)))))))))))))))))) F1 F1 rfl AE0 ?_
 refine R3 ?_
 refine J0 rfl rfl rfl (fun ext => C7 rfl B3 B4 (A0 rfl) (A0 rfl) hga qz4) ?_
 refine R1 ?_
 refine J0 rfl rfl rfl (fun ext => C7 rfl H5 I3 (A0 rfl) (A0 rfl) hda.2 qz8) ?_
 refine R5 ?_
 refine J0 rfl rfl rfl (fun ext => C7 rfl B3 B4 (A0 rfl) (A0 rfl) hgb qz8) ?_
 refine R1 ?_
 refine J0 rfl rfl rfl (fun ext => C7 rfl H5 I3 (A0 rfl) (A0 rfl) hdb.2 qz8) ?_
 refine R1 ?_
 refine c8 ?_ ?_
 ·refine E1 rfl rfl rfl (Q6 rfl Tryz.zeroValue36 rfl) (fun a _ => qz3) ?_
  intro b8 _
  refine R1 ?_
  refine E1 rfl rfl rfl (Q6 rfl Tryz.zeroValue36 rfl) (fun a _ => qz3) ?_
  intro b9 _
  refine R1 ?_
  refine W1 rfl rfl rfl (U5 0 rfl rfl (A0 rfl) (A0 rfl) (U4 _) rfl I3 rfl) (fun a _ => qz3) ?_
  intro _ _
  refine R8 ?_
  refine A4 rfl (B2 rfl Tryz.call26 rfl (Aa5 _ _ (Y9 (f8 o3 hda.1)).1 (Y9 (f8 o3 hdb.1)).1 hsa hsb) (A1 (A0 rfl) (A1 (A0 rfl) A7))) ?_
  refine R4 ?_
  refine P4 rfl (fun hc => B2 rfl Tryz.call27 rfl (AO2 _ _) (A1 (B1 rfl hc) (A1 (B1 rfl hc) A7))) ?_
  refine R4 ?_
  refine P4 rfl (fun hc => B2 rfl Tryz.call27 rfl (AO2 _ _) (A1 (B1 rfl hc) (A1 (B1 rfl hc) A7))) ?_
  refine R2 ?_
  refine A8 (A0 rfl) ?_ ?_
  ·intro h51
   have he : swapR h o (n : Int) = ([], false) := qz96
   rw [he]
   refine R2 ?_
   refine A4 rfl (D4 rfl F4) ?_
   refine R3 ?_
   refine W7 3 1 ?_
   exact G1 [0] (Value.slice none 0 0) (trivial) rfl w7 (N4 rfl D0 (B6 (A6 rfl B0) (B6 (A6 rfl B0) E8)))
  intro h51
  have he : swapR h o (n : Int) = (AP3 o n, true) := qz73
  rw [he]
  refine R4 ?_
  refine E4 [] rfl rfl rfl rfl Tryz.call28 rfl (Ao5 o hol) (A1 (A0 rfl) A7) rfl ?_
  intro x53 ok53
  refine R3 ?_
  refine P5 [] 17 (.pure 0 (.pure 1 (.pure 2 (.pure 3 (.pure 4 (.pure 5 (.pure 6 (.pure 7 (.pure 10 (.pure 11 (.e2 8 (.e2 9 (.e1 12 (.e1 13 (.e1 14 (.e1 15 (.e1 16 .nil))))) 12 (.e2 9 (.e1 13 (.e1 14 (.e1 15 (.e1 16 .nil)))) 13 (.e1 9 (.e1 14 (.e1 15 (.e1 16 .nil)))))) 12 (.e2 8 (.e2 9 (.e1 13 (.e1 14 (.e1 15 (.e1 16 .nil)))) 13 (.e1 9 (.e1 14 (.e1 15 (.e1 16 .nil))))) 13 (.e1 8 (.e1 9 (.e1 14 (.e1 15 (.e1 16 .nil))))))))))))))))) F1 F1 rfl AY7 ?_
  refine R10 ?_
  refine c8 ?_ ?_
  ·refine E1 rfl rfl rfl (I7 (D7 0 rfl B3 B4 (A0 rfl) rfl (A0 rfl) qz8 M3)) (fun a _ => qz3) ?_
   intro _ _
   refine c8 ?_ ?_
   ·refine E1 rfl rfl rfl (I7 (Q1 0 rfl (A0 rfl) rfl H3 (Z8 (k := (n : Int) + 1) hgb))) (fun a _ => qz3) ?_
    intro _ _
    refine R1 ?_
    refine E1 rfl rfl rfl (I7 (D7 0 rfl B3 B4 (A0 rfl) rfl (A0 rfl) qz8 M3)) (fun a _ => qz3) ?_
    intro _ _
    refine R1 ?_
    refine E1 rfl rfl rfl (I7 (Q1 0 rfl (A0 rfl) rfl H3 (Z8 (k := (n : Int)) hga))) (fun a _ => qz3) ?_
    intro _ _
    refine R1 ?_
    refine E1 rfl rfl rfl (I7 (D7 0 rfl B3 B4 (A0 rfl) rfl (A0 rfl) qz8 M3)) (fun a _ => qz3) ?_
    intro _ _
    refine R1 ?_
    refine W1 rfl rfl rfl (d8 0 rfl rfl (A0 rfl) (A0 rfl) (M5 _ _) rfl B4 rfl qz4) (fun a _ => qz3) ?_
    intro _ _
    refine R1 ?_
    refine E1 rfl rfl rfl (I7 (D7 0 rfl B3 B4 (A0 rfl) rfl (A0 rfl) qz8 M3)) (fun a _ => qz3) ?_
    intro _ _
    refine R1 ?_
    refine N3 0 rfl rfl rfl (A0 rfl) (A0 rfl) (M5 _ _) rfl B4 rfl M3 ?_
    refine R8 ?_
    exact G1 [0] x53 (trivial) rfl w7 (N4 rfl D0 (B6 (A6 rfl B0) (B6 (A6 rfl B0) E8)))
   refine E1 rfl rfl rfl (I7 (D7 0 rfl B3 B4 (A0 rfl) rfl (A0 rfl) qz8 M3)) (fun a _ => qz3) ?_
   intro _ _
   refine c8 ?_ ?_
   ·refine E1 rfl rfl rfl (I7 (Q1 0 rfl (A0 rfl) rfl H3 (Z8 (k := (n : Int) + 1) hgb))) (fun a _ => qz3) ?_
    intro _ _
    refine R1 ?_
    refine E1 rfl rfl rfl (I7 (Q1 0 rfl (A0 rfl) rfl H3 (Z8 (k := (n : Int)) hga))) (fun a _ => qz3) ?_
    intro _ _
    refine R1 ?_
    refine E1 rfl rfl rfl (I7 (D7 0 rfl B3 B4 (A0 rfl) rfl (A0 rfl) qz8 M3)) (fun a _ => qz3) ?_
    intro _ _
    refine R1 ?_
    refine W1 rfl rfl rfl (d8 0 rfl rfl (A0 rfl) (A0 rfl) (M5 _ _) rfl B4 rfl qz4) (fun a _ => qz3) ?_
    intro _ _
    refine R1 ?_
    refine E1 rfl rfl rfl (I7 (D7 0 rfl B3 B4 (A0 rfl) rfl (A0 rfl) qz8 M3)) (fun a _ => qz3) ?_
    intro _ _
    refine R1 ?_
    refine N3 0 rfl rfl rfl (A0 rfl) (A0 rfl) (M5 _ _) rfl B4 rfl M3 ?_
    refine R8 ?_
    exact G1 [0] x53 (trivial) rfl w7 (N4 rfl D0 (B6 (A6 rfl B0) (B6 (A6 rfl B0) E8)))
   refine E1 rfl rfl rfl (I7 (Q1 0 rfl (A0 rfl) rfl H3 (Z8 (k := (n : Int)) hga))) (fun a _ => qz3) ?_
   intro _ _
   refine R1 ?_
   refine E1 rfl rfl rfl (I7 (Q1 0 rfl (A0 rfl) rfl H3 (Z8 (k := (n : Int) + 1) hgb))) (fun a _ => qz3) ?_
   intro _ _
   refine R1 ?_
   refine E1 rfl rfl rfl (I7 (D7 0 rfl B3 B4 (A0 rfl) rfl (A0 rfl) qz8 M3)) (fun a _ => qz3) ?_
   intro _ _
   refine R1 ?_
   refine W1 rfl rfl rfl (d8 0 rfl rfl (A0 rfl) (A0 rfl) (M5 _ _) rfl B4 rfl qz4) (fun a _ => qz3) ?_
   intro _ _
   refine R1 ?_
   refine E1 rfl rfl rfl (I7 (D7 0 rfl B3 B4 (A0 rfl) rfl (A0 rfl) qz8 M3)) (fun a _ => qz3) ?_
   intro _ _
   refine R1 ?_
   refine N3 0 rfl rfl rfl (A0 rfl) (A0 rfl) (M5 _ _) rfl B4 rfl M3 ?_
   refine R8 ?_
   exact G1 [0] x53 (trivial) rfl w7 (N4 rfl D0 (B6 (A6 rfl B0) (B6 (A6 rfl B0) E8)))
  refine E1 rfl rfl rfl (I7 (D7 0 rfl B3 B4 (A0 rfl) rfl (A0 rfl) qz8 M3)) (fun a _ => qz3) ?_
  intro _ _
  refine c8 ?_ ?_
  ·refine E1 rfl rfl rfl (I7 (D7 0 rfl B3 B4 (A0 rfl) rfl (A0 rfl) qz8 M3)) (fun a _ => qz3) ?_
   intro _ _
   refine c8 ?_ ?_
   ·refine E1 rfl rfl rfl (I7 (Q1 0 rfl (A0 rfl) rfl H3 (Z8 (k := (n : Int) + 1) hgb))) (fun a _ => qz3) ?_
    intro _ _
    refine R1 ?_
    refine E1 rfl rfl rfl (I7 (Q1 0 rfl (A0 rfl) rfl H3 (Z8 (k := (n : Int)) hga))) (fun a _ => qz3) ?_
    intro _ _
    refine R1 ?_
    refine E1 rfl rfl rfl (I7 (D7 0 rfl B3 B4 (A0 rfl) rfl (A0 rfl) qz8 M3)) (fun a _ => qz3) ?_
    intro _ _
    refine R1 ?_
    refine W1 rfl rfl rfl (d8 0 rfl rfl (A0 rfl) (A0 rfl) (M5 _ _) rfl B4 rfl qz4) (fun a _ => qz3) ?_
    intro _ _
    refine R1 ?_
    refine E1 rfl rfl rfl (I7 (D7 0 rfl B3 B4 (A0 rfl) rfl (A0 rfl) qz8 M3)) (fun a _ => qz3) ?_
    intro _ _
    refine R1 ?_
    refine N3 0 rfl rfl rfl (A0 rfl) (A0 rfl) (M5 _ _) rfl B4 rfl M3 ?_
    refine R8 ?_
    exact G1 [0] x53 (trivial) rfl w7 (N4 rfl D0 (B6 (A6 rfl B0) (B6 (A6 rfl B0) E8)))
   refine E1 rfl rfl rfl (I7 (Q1 0 rfl (A0 rfl) rfl H3 (Z8 (k := (n : Int)) hga))) (fun a _ => qz3) ?_
   intro _ _
   refine R1 ?_
   refine E1 rfl rfl rfl (I7 (Q1 0 rfl (A0 rfl) rfl H3 (Z8 (k := (n : Int) + 1) hgb))) (fun a _ => qz3) ?_
   intro _ _
   refine R1 ?_
   refine E1 rfl rfl rfl (I7 (D7 0 rfl B3 B4 (A0 rfl) rfl (A0 rfl) qz8 M3)) (fun a _ => qz3) ?_
   intro _ _
   refine R1 ?_
   refine W1 rfl rfl rfl (d8 0 rfl rfl (A0 rfl) (A0 rfl) (M5 _ _) rfl B4 rfl qz4) (fun a _ => qz3) ?_
   intro _ _
   refine R1 ?_
   refine E1 rfl rfl rfl (I7 (D7 0 rfl B3 B4 (A0 rfl) rfl (A0 rfl) qz8 M3)) (fun a _ => qz3) ?_
   intro _ _
   refine R1 ?_
   refine N3 0 rfl rfl rfl (A0 rfl) (A0 rfl) (M5 _ _) rfl B4 rfl M3 ?_
   refine R8 ?_
   exact G1 [0] x53 (trivial) rfl w7 (N4 rfl D0 (B6 (A6 rfl B0) (B6 (A6 rfl B0) E8)))
  refine E1 rfl rfl rfl (I7 (Q1 0 rfl (A0 rfl) rfl H3 (Z8 (k := (n : Int)) hga))) (fun a _ => qz3) ?_
  intro _ _
  refine R1 ?_
  refine E1 rfl rfl rfl (I7 (D7 0 rfl B3 B4 (A0 rfl) rfl (A0 rfl) qz8 M3)) (fun a _ => qz3) ?_
  intro _ _
  refine R1 ?_
  refine E1 rfl rfl rfl (I7 (Q1 0 rfl (A0 rfl) rfl H3 (Z8 (k := (n : Int) + 1) hgb))) (fun a _ => qz3) ?_
  intro _ _
  refine R1 ?_
  refine E1 rfl rfl rfl (I7 (D7 0 rfl B3 B4 (A0 rfl) rfl (A0 rfl) qz8 M3)) (fun a _ => qz3) ?_
  intro _ _
  refine R1 ?_
  refine W1 rfl rfl rfl (d8 0 rfl rfl (A0 rfl) (A0 rfl) (M5 _ _) rfl B4 rfl qz4) (fun a _ => qz3) ?_
  intro _ _
  refine R1 ?_
  refine E1 rfl rfl rfl (I7 (D7 0 rfl B3 B4 (A0 rfl) rfl (A0 rfl) qz8 M3)) (fun a _ => qz3) ?_
  intro _ _
  refine R1 ?_
  refine N3 0 rfl rfl rfl (A0 rfl) (A0 rfl) (M5 _ _) rfl B4 rfl M3 ?_
  refine R8 ?_
  exact G1 [0] x53 (trivial) rfl w7 (N4 rfl D0 (B6 (A6 rfl B0) (B6 (A6 rfl B0) E8)))
 refine E1 rfl rfl rfl (Q6 rfl Tryz.zeroValue36 rfl) (fun a _ => qz3) ?_
 intro b9 _
 refine R1 ?_
 refine E1 rfl rfl rfl (Q6 rfl Tryz.zeroValue36 rfl) (fun a _ => qz3) ?_
 intro b8 _
 refine R1 ?_
 refine W1 rfl rfl rfl (U5 1 rfl rfl (A0 rfl) (A0 rfl) (U4 _) rfl I3 rfl) (fun a _ => qz3) ?_
 intro _ _
 refine R8 ?_
 refine A4 rfl (B2 rfl Tryz.call26 rfl (Aa5 _ _ (Y9 (f8 o3 hda.1)).1 (Y9 (f8 o3 hdb.1)).1 hsa hsb) (A1 (A0 rfl) (A1 (A0 rfl) A7))) ?_
 refine R4 ?_
 refine P4 rfl (fun hc => B2 rfl Tryz.call27 rfl (AO2 _ _) (A1 (B1 rfl hc) (A1 (B1 rfl hc) A7))) ?_
 refine R4 ?_
 refine P4 rfl (fun hc => B2 rfl Tryz.call27 rfl (AO2 _ _) (A1 (B1 rfl hc) (A1 (B1 rfl hc) A7))) ?_
 refine R2 ?_
 refine A8 (A0 rfl) ?_ ?_
 ·intro h51
  have he : swapR h o (n : Int) = ([], false) := qz96
  rw [he]
  refine R2 ?_
  refine A4 rfl (D4 rfl F4) ?_
  refine R3 ?_
  refine W7 3 1 ?_
  exact G1 [0] (Value.slice none 0 0) (trivial) rfl w7 (N4 rfl D0 (B6 (A6 rfl B0) (B6 (A6 rfl B0) E8)))
 intro h51
 have he : swapR h o (n : Int) = (AP3 o n, true) := qz73
 rw [he]
 refine R4 ?_
 refine E4 [] rfl rfl rfl rfl Tryz.call28 rfl (Ao5 o hol) (A1 (A0 rfl) A7) rfl ?_
 intro x53 ok53
 refine R3 ?_
 refine P5 [] 17 (.pure 0 (.pure 1 (.pure 2 (.pure 3 (.pure 4 (.pure 5 (.pure 6 (.pure 7 (.pure 10 (.pure 11 (.e2 8 (.e2 9 (.e1 12 (.e1 13 (.e1 14 (.e1 15 (.e1 16 .nil))))) 12 (.e2 9 (.e1 13 (.e1 14 (.e1 15 (.e1 16 .nil)))) 13 (.e1 9 (.e1 14 (.e1 15 (.e1 16 .nil)))))) 12 (.e2 8 (.e2 9 (.e1 13 (.e1 14 (.e1 15 (.e1 16 .nil)))) 13 (.e1 9 (.e1 14 (.e1 15 (.e1 16 .nil))))) 13 (.e1 8 (.e1 9 (.e1 14 (.e1 15 (.e1 16 .nil))))))))))))))))) F1 F1 rfl AY7 ?_
 refine R10 ?_
 refine c8 ?_ ?_
 ·refine E1 rfl rfl rfl (I7 (D7 0 rfl B3 B4 (A0 rfl) rfl (A0 rfl) qz8 M3)) (fun a _ => qz3) ?_
  intro _ _
  refine c8 ?_ ?_
  ·refine E1 rfl rfl rfl (I7 (Q1 0 rfl (A0 rfl) rfl H3 (Z8 (k := (n : Int) + 1) hgb))) (fun a _ => qz3) ?_
   intro _ _
   refine R1 ?_
   refine E1 rfl rfl rfl (I7 (D7 0 rfl B3 B4 (A0 rfl) rfl (A0 rfl) qz8 M3)) (fun a _ => qz3) ?_
   intro _ _
   refine R1 ?_
   refine E1 rfl rfl rfl (I7 (Q1 0 rfl (A0 rfl) rfl H3 (Z8 (k := (n : Int)) hga))) (fun a _ => qz3) ?_
   intro _ _
   refine R1 ?_
   refine E1 rfl rfl rfl (I7 (D7 0 rfl B3 B4 (A0 rfl) rfl (A0 rfl) qz8 M3)) (fun a _ => qz3) ?_
   intro _ _
   refine R1 ?_
   refine W1 rfl rfl rfl (d8 0 rfl rfl (A0 rfl) (A0 rfl) (M5 _ _) rfl B4 rfl qz4) (fun a _ => qz3) ?_
   intro _ _
   refine R1 ?_
   refine E1 rfl rfl rfl (I7 (D7 0 rfl B3 B4 (A0 rfl) rfl (A0 rfl) qz8 M3)) (fun a _ => qz3) ?_
   intro _ _
   refine R1 ?_
   refine N3 0 rfl rfl rfl (A0 rfl) (A0 rfl) (M5 _ _) rfl B4 rfl M3 ?_
   refine R8 ?_
   exact G1 [0] x53 (trivial) rfl w7 (N4 rfl D0 (B6 (A6 rfl B0) (B6 (A6 rfl B0) E8)))
  refine E1 rfl rfl rfl (I7 (D7 0 rfl B3 B4 (A0 rfl) rfl (A0 rfl) qz8 M3)) (fun a _ => qz3) ?_
  intro _ _
  refine c8 ?_ ?_
  ·refine E1 rfl rfl rfl (I7 (Q1 0 rfl (A0 rfl) rfl H3 (Z8 (k := (n : Int) + 1) hgb))) (fun a _ => qz3) ?_
   intro _ _
   refine R1 ?_
   refine E1 rfl rfl rfl (I7 (Q1 0 rfl (A0 rfl) rfl H3 (Z8 (k := (n : Int)) hga))) (fun a _ => qz3) ?_
   intro _ _
   refine R1 ?_
   refine E1 rfl rfl rfl (I7 (D7 0 rfl B3 B4 (A0 rfl) rfl (A0 rfl) qz8 M3)) (fun a _ => qz3) ?_
   intro _ _
   refine R1 ?_
   refine W1 rfl rfl rfl (d8 0 rfl rfl (A0 rfl) (A0 rfl) (M5 _ _) rfl B4 rfl qz4) (fun a _ => qz3) ?_
   intro _ _
   refine R1 ?_
   refine E1 rfl rfl rfl (I7 (D7 0 rfl B3 B4 (A0 rfl) rfl (A0 rfl) qz8 M3)) (fun a _ => qz3) ?_
   intro _ _
   refine R1 ?_
   refine N3 0 rfl rfl rfl (A0 rfl) (A0 rfl) (M5 _ _) rfl B4 rfl M3 ?_
   refine R8 ?_
   exact G1 [0] x53 (trivial) rfl w7 (N4 rfl D0 (B6 (A6 rfl B0) (B6 (A6 rfl B0) E8)))
  refine E1 rfl rfl rfl (I7 (Q1 0 rfl (A0 rfl) rfl H3 (Z8 (k := (n : Int)) hga))) (fun a _ => qz3) ?_
  intro _ _
  refine R1 ?_
  refine E1 rfl rfl rfl (I7 (Q1 0 rfl (A0 rfl) rfl H3 (Z8 (k := (n : Int) + 1) hgb))) (fun a _ => qz3) ?_
  intro _ _
  refine R1 ?_
  refine E1 rfl rfl rfl (I7 (D7 0 rfl B3 B4 (A0 rfl) rfl (A0 rfl) qz8 M3)) (fun a _ => qz3) ?_
  intro _ _
  refine R1 ?_
  refine W1 rfl rfl rfl (d8 0 rfl rfl (A0 rfl) (A0 rfl) (M5 _ _) rfl B4 rfl qz4) (fun a _ => qz3) ?_
  intro _ _
  refine R1 ?_
  refine E1 rfl rfl rfl (I7 (D7 0 rfl B3 B4 (A0 rfl) rfl (A0 rfl) qz8 M3)) (fun a _ => qz3) ?_
  intro _ _
  refine R1 ?_
  refine N3 0 rfl rfl rfl (A0 rfl) (A0 rfl) (M5 _ _) rfl B4 rfl M3 ?_
  refine R8 ?_
  exact G1 [0] x53 (trivial) rfl w7 (N4 rfl D0 (B6 (A6 rfl B0) (B6 (A6 rfl B0) E8)))
 refine E1 rfl rfl rfl (I7 (D7 0 rfl B3 B4 (A0 rfl) rfl (A0 rfl) qz8 M3)) (fun a _ => qz3) ?_
 intro _ _
 refine c8 ?_ ?_
 ·refine E1 rfl rfl rfl (I7 (D7 0 rfl B3 B4 (A0 rfl) rfl (A0 rfl) qz8 M3)) (fun a _ => qz3) ?_
  intro _ _
  refine c8 ?_ ?_
  ·refine E1 rfl rfl rfl (I7 (Q1 0 rfl (A0 rfl) rfl H3 (Z8 (k := (n : Int) + 1) hgb))) (fun a _ => qz3) ?_
   intro _ _
   refine R1 ?_
   refine E1 rfl rfl rfl (I7 (Q1 0 rfl (A0 rfl) rfl H3 (Z8 (k := (n : Int)) hga))) (fun a _ => qz3) ?_
   intro _ _
   refine R1 ?_
   refine E1 rfl rfl rfl (I7 (D7 0 rfl B3 B4 (A0 rfl) rfl (A0 rfl) qz8 M3)) (fun a _ => qz3) ?_
   intro _ _
   refine R1 ?_
   refine W1 rfl rfl rfl (d8 0 rfl rfl (A0 rfl) (A0 rfl) (M5 _ _) rfl B4 rfl qz4) (fun a _ => qz3) ?_
   intro _ _
   refine R1 ?_
   refine E1 rfl rfl rfl (I7 (D7 0 rfl B3 B4 (A0 rfl) rfl (A0 rfl) qz8 M3)) (fun a _ => qz3) ?_
   intro _ _
   refine R1 ?_
   refine N3 0 rfl rfl rfl (A0 rfl) (A0 rfl) (M5 _ _) rfl B4 rfl M3 ?_
   refine R8 ?_
   exact G1 [0] x53 (trivial) rfl w7 (N4 rfl D0 (B6 (A6 rfl B0) (B6 (A6 rfl B0) E8)))
  refine E1 rfl rfl rfl (I7 (Q1 0 rfl (A0 rfl) rfl H3 (Z8 (k := (n : Int)) hga))) (fun a _ => qz3) ?_
  intro _ _
  refine R1 ?_
  refine E1 rfl rfl rfl (I7 (Q1 0 rfl (A0 rfl) rfl H3 (Z8 (k := (n : Int) + 1) hgb))) (fun a _ => qz3) ?_
  intro _ _
  refine R1 ?_
  refine E1 rfl rfl rfl (I7 (D7 0 rfl B3 B4 (A0 rfl) rfl (A0 rfl) qz8 M3)) (fun a _ => qz3) ?_
  intro _ _
  refine R1 ?_
  refine W1 rfl rfl rfl (d8 0 rfl rfl (A0 rfl) (A0 rfl) (M5 _ _) rfl B4 rfl qz4) (fun a _ => qz3) ?_
  intro _ _
  refine R1 ?_
  refine E1 rfl rfl rfl (I7 (D7 0 rfl B3 B4 (A0 rfl) rfl (A0 rfl) qz8 M3)) (fun a _ => qz3) ?_
  intro _ _
  refine R1 ?_
  refine N3 0 rfl rfl rfl (A0 rfl) (A0 rfl) (M5 _ _) rfl B4 rfl M3 ?_
  refine R8 ?_
  exact G1 [0] x53 (trivial) rfl w7 (N4 rfl D0 (B6 (A6 rfl B0) (B6 (A6 rfl B0) E8)))
 refine E1 rfl rfl rfl (I7 (Q1 0 rfl (A0 rfl) rfl H3 (Z8 (k := (n : Int)) hga))) (fun a _ => qz3) ?_
 intro _ _
 refine R1 ?_
 refine E1 rfl rfl rfl (I7 (D7 0 rfl B3 B4 (A0 rfl) rfl (A0 rfl) qz8 M3)) (fun a _ => qz3) ?_
 intro _ _
 refine R1 ?_
 refine E1 rfl rfl rfl (I7 (Q1 0 rfl (A0 rfl) rfl H3 (Z8 (k := (n : Int) + 1) hgb))) (fun a _ => qz3) ?_
 intro _ _
 refine R1 ?_
 refine E1 rfl rfl rfl (I7 (D7 0 rfl B3 B4 (A0 rfl) rfl (A0 rfl) qz8 M3)) (fun a _ => qz3) ?_
 intro _ _
 refine R1 ?_
 refine W1 rfl rfl rfl (d8 0 rfl rfl (A0 rfl) (A0 rfl) (M5 _ _) rfl B4 rfl qz4) (fun a _ => qz3) ?_
 intro _ _
 refine R1 ?_
 refine E1 rfl rfl rfl (I7 (D7 0 rfl B3 B4 (A0 rfl) rfl (A0 rfl) qz8 M3)) (fun a _ => qz3) ?_
 intro _ _
 refine R1 ?_
 refine N3 0 rfl rfl rfl (A0 rfl) (A0 rfl) (M5 _ _) rfl B4 rfl M3 ?_
 refine R8 ?_
 exact G1 [0] x53 (trivial) rfl w7 (N4 rfl D0 (B6 (A6 rfl B0) (B6 (A6 rfl B0) E8)))
end Go.Proofs.YtcfkbhnpfjjmjaaGreat
namespace Go.M
open Go.AV
theorem CK9 (h : List C5) (o : List Int) (k : Int) : (swapR h o k).1.length ≤ o.length := by
  unfold swapR
  split
  · split
    · exact Nat.zero_le _
    · unfold AP3; dsimp only; rw [List.length_set, List.length_set]; exact Nat.le_refl _
  · exact Nat.zero_le _
end Go.M
namespace Go.Proofs.YtcfkbhnpfjjmjaaGreat
open Go Go.AV Go.M
open Go.ChangeShapes Go.WideShapes Go.ChangeAt Go.RowKit
section
attribute [local irreducible] OpW OpA OpS AWP B9 J5 C8 OpE RetOk H1 I9 Le Ev F6 J9 V9 Int.tdiv IntKind.wrap
theorem Ah9 (h : List C5) (o : List Int) (k : Int) (hs : ∀ d ∈ h, d.size ≤ 1048576) (hl : h.length ≤ 1000) (hol : o.length ≤ 4194304) : B9 Tryz.prog 7 [AV.list 8 (h.map C5.cs), ints o, AV.int k] (AV.tup [ints (swapR h o k).1, AV.bool (swapR h o k).2]) :=
  K2 (Bn1 h o k hs hl hol) fun v _ => p4 (D1 (J3 (List.mem_singleton.2 rfl) F5) (D1 H0 V2))
theorem BL8 (h : List C5) (o : List Int) (k : Int) (hs : ∀ d ∈ h, d.size ≤ 1048576) (hl : h.length ≤ 1000) (hol : o.length ≤ 4194304) : B9 Tryz.prog 8 [AV.list 8 (h.map C5.cs), ints o, AV.int k] (AV.tup [ints (swapR h o k).1, AV.bool (swapR h o k).2]) :=
  K2 (Bc4 h o k hs hl hol) fun v _ => p4 (D1 (J3 (List.mem_singleton.2 rfl) F5) (D1 H0 V2))
theorem Bn2 (code : List Int) (hc : ∀ x ∈ code, (Lit.int .u8 x).wf = true) (more : List Int) (hm : ∀ x ∈ more, (Lit.int .u8 x).wf = true) : B9 Tryz.prog 3 [AJ1 code, AJ1 more] (AV.bool true) := by
 refine B7 Tryz.func3 rfl Tryz.ntmps3 rfl ?_
 refine R9 ?_
 refine A4 rfl (B2 rfl Tryz.call5 rfl (big_spec code more) (A1 (A0 rfl) (A1 (A0 rfl) A7))) ?_
 refine R1 ?_
 refine A8 (A0 rfl) ?_ ?_
 ·intro h28
  refine R5 ?_
  exact D5 rfl (A6 rfl (by first | rfl | (rw [Bh9 x101.2 x101.1]; simp)))
 intro h28
 have hb0 : Y4 code := Bi1 hc
 have hb1 : Y4 more := Bi1 hm
 refine R4 ?_
 refine E4 [] rfl rfl rfl rfl Tryz.call6 rfl (BF1 code hb0) (A1 (A0 rfl) A7) rfl ?_
 intro x31 ok31
 obtain ⟨⟨⟨h, o⟩, k⟩, hx31⟩ : ∃ z, x31 = z := ⟨_, rfl⟩
 subst hx31
 obtain ⟨⟨hhl, hdr⟩, hol⟩ := ok31
 dsimp only at hhl hdr hol ⊢
 have hds : ∀ d ∈ h, d.size ≤ 1048576 := fun d hd => Nat.le_trans (hdr.2 d hd) D0
 have hsl := CK9 h o k
 refine R13 ?_
 refine A4 rfl (B2 rfl Tryz.call7 rfl (Ah9 h o k hds qz8 qz8) (A1 (A0 rfl) (A1 (A0 rfl) (A1 (A0 rfl) A7)))) ?_
 refine R11 ?_
 refine A4 rfl (B2 rfl Tryz.call8 rfl (BL8 h o k hds qz8 qz8) (A1 (A0 rfl) (A1 (A0 rfl) (A1 (A0 rfl) A7)))) ?_
 refine R11 ?_
 refine A4 rfl (Be7 rfl T4 (A0 rfl) (A0 rfl)) ?_
 refine R3 ?_
 refine P4 rfl (fun hc => B2 rfl Tryz.call9 rfl (Ao8 _ _) (A1 (B1 rfl hc) (A1 (B1 rfl hc) A7))) ?_
 refine R3 ?_
 refine A8 (A0 rfl) ?_ ?_
 ·intro h57
  exfalso; simp at h57
 intro h57
 refine R6 ?_
 refine awp_join [(1, _)] ⟨rfl, trivial⟩ ?_ ?_
 ·skip
  refine A8 (A0 rfl) ?_ ?_
  ·intro h58
   obtain ⟨l, hsw⟩ : ∃ l, swapR h o k = (l, true) := ⟨(swapR h o k).1, Prod.ext rfl h58⟩
   obtain ⟨w1, w2, w3⟩ := swap_ok hsw hdr.1
   rw [hsw] at hsl
   rw [hsw]
   refine R4 ?_
   refine A4 rfl (B2 rfl Tryz.call10 rfl (Ah8 h o hds qz8) (A1 (A0 rfl) (A1 (A0 rfl) A7))) ?_
   refine R10 ?_
   refine A4 rfl (B2 rfl Tryz.call10 rfl (Ah8 h l hds qz8) (A1 (A0 rfl) (A1 (A0 rfl) A7))) ?_
   refine R11 ?_
   refine A4 rfl (B2 rfl Tryz.call7 rfl (Ah9 h l k hds qz8 (by dsimp only at hsl; omega)) (A1 (A0 rfl) (A1 (A0 rfl) (A1 (A0 rfl) A7)))) ?_
   refine R17 ?_
   refine P4 rfl (fun hc => Be7 rfl T4 (B1 rfl hc) (B1 rfl hc)) ?_
   refine R8 ?_
   refine P4 rfl (fun hc => B2 rfl Tryz.call9 rfl (Ao8 _ _) (A1 (B1 rfl hc) (A1 (B1 rfl hc) A7))) ?_
   refine R3 ?_
   refine A8 (A0 rfl) ?_ ?_
   ·intro h98
    exfalso; rw [← w1, w2, w3] at h98; simp at h98
   intro h98
   refine R1 ?_
   exact Le.trans (C1 [] rfl) (E3 0 B0 ⟨rfl, trivial⟩)
  intro h58
  refine R1 ?_
  exact Le.trans (C1 [] rfl) (E3 0 B0 ⟨rfl, trivial⟩)
 refine R3 ?_
 refine E4 [] rfl rfl rfl rfl Tryz.call11 rfl (BL7 more hb1) (A1 (A0 rfl) A7) rfl ?_
 intro x101 ok101
 refine R4 ?_
 intro b18
 refine R1 ?_
 intro b19
 refine R7 ?_
 refine A4 rfl (B2 rfl Tryz.call12 rfl (Ap4 x101.1 x101.2 qz8 qz8) (A1 (A0 rfl) (A1 (A0 rfl) A7))) ?_
 refine R10 ?_
 refine A4 rfl (B2 rfl Tryz.call13 rfl (Bb6 x101.1 x101.2 qz8 qz8) (A1 (A0 rfl) (A1 (A0 rfl) A7))) ?_
 refine R10 ?_
 refine A4 rfl (B2 rfl Tryz.call12 rfl (Ap4 x101.2 x101.1 qz8 qz8) (A1 (A0 rfl) (A1 (A0 rfl) A7))) ?_
 refine R10 ?_
 refine A4 rfl (Ag1 rfl T4 (A0 rfl) (A0 rfl)) ?_
 refine R3 ?_
 refine L3 rfl (fun hc => Ag1 rfl T4 (B1 rfl hc) (B1 rfl hc)) ?_
 refine R4 ?_
 refine L3 rfl (fun hc => Ag1 rfl T4 (B1 rfl hc) (B1 rfl hc)) ?_
 refine R4 ?_
 refine L3 rfl (fun hc => Ag1 rfl T4 (B1 rfl hc) (B1 rfl hc)) ?_
 refine R4 ?_
 exact D5 rfl (A6 rfl (by first | rfl | (rw [Bh9 x101.2 x101.1]; simp)))
end
theorem BB5 : BM1 Tryz.prog 22 (List Int) (fun l => [AJ1 l]) (fun l => ∀ x ∈ l, (Lit.int .u8 x).wf = true) := Bn8 (sz := 1) f4 F1 (CE3 Tryz.underlying5) (fun _ => rfl)
set_option maxRecDepth 100000 in
theorem fnSwaps_lifted (os : Os) (started : os.Started) (H : Type) (enc : TypeId × Value → H) :
    ReturnsInHanded {} Tryz.checked os 3 .any (Rows.fnSwapsSpec.pre6 enc Tryz.prog Tryz.f3 Rows.fnSwapsRow.domain false) (Rows.fnSwapsSpec.post enc Tryz.prog Tryz.f3 false true false false) := by
  refine returnsInHanded_of_change (C := Tryz.checked) F1 started F1 Tryz.func3
    (ChangeSpec.witness6 (enc := enc) (C := Tryz.checked) false ⟨#[], #[.slice none 0 0, .slice none 0 0], []⟩ 8 F1 F1 F1 F1) ?_
  intro W base args ds gs before hval0 hW hcnd _
  have hval : ∀ (j : Nat) t v, Tryz.f3.params[j]? = some t → args[j]? = some v → Value.okWide Tryz.prog W .any base t v := hval0
  have hW2 := hW
  obtain ⟨p, q, hA0, hV, rfl, hfz, hnd⟩ := hW
  have hA : DataW.TrodAll enc Tryz.prog W 0 (fun _ => true) true Tryz.f3.params.toList args.toList ds p := hA0
  rw [Tryz.params3] at hA hval
  obtain ⟨v0, vs0, d0, ds0, p0, q0, hargs, rfl, rfl, h0, r0⟩ := trodAll_cons hA
  obtain ⟨v1, vs1, d1, ds1, p1, q1, rfl, rfl, rfl, h1, r1⟩ := trodAll_cons r0
  obtain ⟨rfl, rfl, rfl⟩ := trodAll_nil r1
  obtain rfl : args = #[v0, v1] := by cases args; simp_all
  obtain ⟨rfl, rfl⟩ := trodVars_none hV
  have lt0 : ∀ x ∈ p0, x.block < W.heap.size := by obtain ⟨m, hm⟩ := h0; exact DataW.trod_lt m _ _ _ hm
  obtain ⟨a0, w0, g0⟩ := Bt4 (BB5) (by obtain ⟨y1, y2, y3, rfl⟩ := okWide_slice f4 (hval 0 22 v0 rfl rfl); rfl) h0
  have lt1 : ∀ x ∈ p1, x.block < W.heap.size := by obtain ⟨m, hm⟩ := h1; exact DataW.trod_lt m _ _ _ hm
  obtain ⟨a1, w1, g1⟩ := Bt4 (BB5) (by obtain ⟨y1, y2, y3, rfl⟩ := okWide_slice f4 (hval 1 22 v1 rfl rfl); rfl) h1
  have hcall := CE4 (Bn2 a0 w0 a1 w1) (Y8.cons g0 (Y8.cons g1 (Y8.nil _)))
  clear hA0 hval0
  refine Calls.mono hcall fun e W2 ⟨he, bel⟩ => ?_
  subst he
  exact ⟨_, rfl, _, _, _, [], _, [], hW2, trodAll_mk1 (shut_bool T4 _), (trodAll_cons_mk (Below.trod (by kernel_rfl : laidOutB Tryz.prog = true) F1 (of_decide_eq_true F1) h0 bel lt0) (trodAll_cons_mk (Below.trod (by kernel_rfl : laidOutB Tryz.prog = true) F1 (of_decide_eq_true F1) h1 bel lt1) trodAll_mk0)), rfl, bel.frame _, fun h => by cases h⟩
theorem Bs9 {a b : Bool} (h : a = true) (k : b = true) : (a && b) = true := by rw [h, k]; rfl
set_option maxRecDepth 100000 in
theorem Bc7 : joinedFacts Tryz.pinned.checked.prog 3 Tryz.f3 Rows.fnSwapsSpec Rows.fnSwapsRow = true := by
  unfold joinedFacts
  iterate 18 (rw [Bool.and_assoc])
  refine Bs9 ?_ ?_
  · as_aux_lemma => kernel_rfl
  · as_aux_lemma => kernel_rfl
theorem fnSwaps_proved : Rows.FnSwapsSaid :=
  OpenClaim.holds_of_wide 3 Tryz.f3 rfl rfl rfl rfl rfl rfl rfl ⟨rfl, rfl, rfl, rfl, rfl⟩ rfl rfl rfl rfl rfl F1 Tryz.func3 Bc7
    (of_decide_eq_true F1) (by unfold Func.isWrapper; first | (rw [if_pos (by decide +kernel)]; kernel_rfl) | (rw [if_neg (by decide +kernel)]; exact ⟨rfl, rfl⟩))
    (fun os started H enc _ => fnSwaps_lifted os started H enc)
end Go.Proofs.YtcfkbhnpfjjmjaaGreat
