/- FnVoted: polls played, step by step. -/
import Derived.Test.YtkibefcceekmnaaGreatDoorCards
import Derived.Test.YtkibefcceekmnaaGreatDoorTie
import Derived.Lay
import Derived.SevenTiedAt
import Derived.Test.YtkibefcceekmnaaGreatDoorZVoted4
set_option linter.unusedVariables false
set_option linter.unusedSimpArgs false
set_option maxRecDepth 100000
set_option maxHeartbeats 4000000
namespace Go.Proofs.YtkibefcceekmnaaGreatDoor
open Go Go.AV Go.M
attribute [local irreducible] OpW OpA OpS AWP D3 P2 F0 OpE RetOk K2 M3 Le Ev I4 Q8 Int.tmod Int.tdiv IntKind.wrap
def AA5 (n : D5) (v w : Value) : List AV := [AV.int n.Now, AV.is v, AV.int n.Far, AV.is w]
theorem Ah4 (n : D5) (u : List A7) (hs : n.Homes.length ≤ 1048576) (hu : u.length ≤ 1048576) : F0 Tryz.prog 51 [AV.agg n.cs, AV.list 4 (u.map A7.cs)] [] (fun _ : Value × Value => True) (fun x => [.arr x.1 3 1 (n.Homes.map fun x => [AV.int x]), .arr x.2 68 4 (u.map A7.cs)]) (fun x => AV.agg (AA5 (netU n u) x.1 x.2)) := by
 refine E1 Tryz.func51 rfl Tryz.ntmps51 rfl ?_
 refine R3 ?_
 intro b2
 refine R1 ?_
 intro b4
 refine R2 ?_
 refine K1 _ [(0, false), (1, false), (2, false), (3, false), (5, false), (6, false), (7, false), (4, true), (8, true)] qz8 qz8 rfl Q0 ?_
 refine R7 ?_
 refine N1 rfl rfl rfl (E6 [] rfl Tryz.call52 rfl (AQ8 n.Homes qz6) (A1 (A0 rfl) A3) rfl) (fun a _ => qz2) ?_
 intro x9 ok9
 refine N1 rfl rfl rfl (E6 [] rfl Tryz.call81 rfl (AD3 u qz6) (A1 (A0 rfl) A3) rfl) (fun a _ => qz2) ?_
 intro x13 ok13
 refine R1 ?_
 refine O5 2 rfl fun one_x9 => ?_
 refine O5 3 rfl fun one_x13 => ?_
 refine A2 rfl (I3 (places := #[(0, 1), (1, 1), (2, 1), (3, 1)]) rfl Tryz.underlying28 Tryz.zeroValue28 (fun w => by kernel_rfl) rfl (B7 (A0 rfl) (M9 _ _) (B7 (A0 rfl) (F4 one_x9) (B7 (A0 rfl) (M9 _ _) (B7 (A0 rfl) (F4 one_x13) I0)))) rfl) ?_
 refine R3 ?_
 exact F1 [2, 2] (x9, x13) (trivial) rfl B6 (H4 rfl (C3 (ys := _) 0 rfl rfl C2 B1 rfl))
theorem Ax4 (n : D5) (hs : n.Homes.length ≤ 1048576) (hu : n.Under.length ≤ 1048576) : F0 Tryz.prog 51 [AV.agg n.cs, AV.list 4 (n.Under.map A7.cs)] [] (fun _ : Value × Value => True) (fun x => [.arr x.1 3 1 (n.Homes.map fun x => [AV.int x]), .arr x.2 68 4 (n.Under.map A7.cs)]) (fun x => AV.agg (AA5 n x.1 x.2)) := Ah4 n n.Under hs hu
theorem Ao7 (n : D5) (hv uv : Value) (hs : n.size ≤ 1048576) : F0 Tryz.prog 90 [AV.agg (AA5 n hv uv)] [.arr hv 3 1 (n.Homes.map fun x => [AV.int x]), .arr uv 68 4 (n.Under.map A7.cs)] (fun _ : Value × Value => True) (fun x => [.arr x.1 3 1 ((ifN n).1.Homes.map fun x => [AV.int x]), .arr x.2 68 4 ((ifN n).1.Under.map A7.cs)]) (fun x => AV.tup [AV.agg (AA5 (ifN n).1 x.1 x.2), AV.bool (ifN n).2]) := by
 refine E1 Tryz.func90 rfl Tryz.ntmps90 rfl ?_
 refine R3 ?_
 intro b1
 refine R1 ?_
 intro b2
 refine R6 ?_
 refine A2 rfl (V7 rfl Tryz.call33 rfl (S5 n hs) (M4 _) (F6 (f4 (A0 rfl) (W6 (D8 G5 (D8 (I5 (D9 (i := 2) rfl) F5) (D8 G5 (D8 (I5 (D9 (i := 3) rfl) F5) T1)))))) N3)) ?_
 refine R2 ?_
 refine A6 (A0 rfl) ?_ ?_
 ·intro h6
  rw [show ifN n = (T3, false) from if_neg (by simpa using h6)]
  refine R7 ?_
  refine K8 3 1 ?_
  refine K8 68 4 ?_
  exact F1 [1, 0] ((Value.slice none 0 0), (Value.slice none 0 0)) (trivial) rfl B6 (L7 rfl D1 (B2 (C3 (ys := _) 2 rfl rfl C2 B1 rfl) (B2 (A8 rfl B6) E3)))
 intro h6
 rw [show ifN n = (n, true) from if_pos (by simpa using h6)]
 refine R8 ?_
 exact F1 [2, 2] (hv, uv) (trivial) rfl B6 (L7 rfl D1 (B2 (C3 (ys := _) 0 rfl rfl C2 B1 rfl) (B2 (A8 rfl B6) E3)))
theorem Ax5 (h : List Int) (far : Int) (hl : h.length ≤ 1000000) (hg : goodNet ⟨0, h, far, []⟩ = true) : F0 Tryz.prog 92 [ints h, AV.int far] [] (fun _ : Value × Value => True) (fun x => [.arr x.1 3 1 (h.map fun x => [AV.int x]), .arr x.2 68 4 []]) (fun x => AV.tup [AV.agg (AA5 ⟨0, h, far, []⟩ x.1 x.2), AV.bool true]) := by
 refine E1 Tryz.func92 rfl Tryz.ntmps92 rfl ?_
 refine R3 ?_
 intro b4
 refine R5 ?_
 refine E5 [] rfl rfl rfl rfl Tryz.call52 rfl (AQ8 h qz6) (A1 (A0 rfl) A3) rfl ?_
 intro x8 ok8
 refine R1 ?_
 refine O5 0 rfl fun one_x8 => ?_
 refine A2 rfl (I3 (places := #[(0, 1), (1, 1), (2, 1), (3, 1)]) rfl Tryz.underlying28 Tryz.zeroValue28 (fun w => by kernel_rfl) rfl (B7 (A0 rfl) (F4 one_x8) (B7 (A0 rfl) (M9 _ _) I0)) rfl) ?_
 refine R1 ?_
 intro b6
 refine R6 ?_
 refine A2 rfl (V7 rfl Tryz.call33 rfl (S5 ⟨0, h, far, []⟩ (by show h.length + 0 ≤ _; omega)) (M4 _) (F6 (f4 (A0 rfl) (W6 (D8 G5 (D8 (I5 (D9 (i := 1) rfl) F5) (D8 G5 (D8 Ac7 T1)))))) N3)) ?_
 refine R2 ?_
 refine A6 (A0 rfl) ?_ ?_
 ·intro h13
  exfalso; rw [hg] at h13; cases h13
 intro h13
 refine R8 ?_
 refine K8 68 4 ?_
 exact F1 [2, 0] (x8, (Value.slice none 0 0)) (trivial) rfl B6 (L7 rfl D1 (B2 (C3 (ys := _) 3 rfl rfl C2 B1 rfl) (B2 (A8 rfl B6) E3)))
theorem w1 (n : D5) (a b : Int) (s : Str) (hg : goodNet n = true) (hs : s.length ≤ 1000) : F0 Tryz.prog 93 [AV.agg n.cs, AV.int a, AV.int b, AV.str s] [] (fun _ : Value × Value => True) (fun x => [.arr x.1 3 1 ((P3 n a b s).1.Homes.map fun x => [AV.int x]), .arr x.2 68 4 ((P3 n a b s).1.Under.map A7.cs)]) (fun x => AV.tup [AV.agg (AA5 (P3 n a b s).1 x.1 x.2), AV.bool (P3 n a b s).2]) := by
 have hn := d9 hg
 obtain ⟨q1, q2, q3⟩ := N8 (n := n) qz6
 have hgh := N2 hg
 have h60 := J2 hg
 refine E1 Tryz.func93 rfl Tryz.ntmps93 rfl ?_
 refine R3 ?_
 intro b4
 refine R1 ?_
 intro b8
 refine R6 ?_
 refine A2 rfl (B3 rfl Tryz.call33 rfl (S5 n qz6) (A1 (A0 rfl) A3)) ?_
 refine R4 ?_
 refine J6 rfl (fun hc => B3 rfl Tryz.call64 rfl (n7 _ _ W1) (A1 (B9 rfl hc) (A1 (B9 rfl hc) A3))) ?_
 refine R5 ?_
 refine J6 rfl (fun hc => B3 rfl Tryz.call64 rfl (n7 _ _ W1) (A1 (B9 rfl hc) (A1 (B9 rfl hc) A3))) ?_
 refine R8 ?_
 refine A6 (A0 rfl) ?_ ?_
 ·intro h29
  rw [hg] at h29
  rw [Ad4 Ab4]
  refine R7 ?_
  refine K8 3 1 ?_
  refine K8 68 4 ?_
  exact F1 [1, 0] ((Value.slice none 0 0), (Value.slice none 0 0)) (trivial) rfl B6 (L7 rfl D1 (B2 (C3 (ys := _) 2 rfl rfl C2 B1 rfl) (B2 (A8 rfl B6) E3)))
 intro h29
 rw [hg] at h29
 obtain ⟨⟨ha, hb⟩, _⟩ := Ad5 (s := s) (a := a) (b := b) (n := n) Ab4
 rw [Ad0 hg, if_pos (show o2 n a b = true from may_go Ab4)]
 obtain ⟨r1, r2⟩ := AF8 hg a b ha hb
 have hfm := AK8 hgh.2.2.2 (m := max (L9 n a - L9 n b) (-(L9 n a - L9 n b))) qz6
 have htr : 1 ≤ q8 n a b ∧ q8 n a b ≤ 41 := (by unfold q8; omega)
 have hls := At2 hg (Q9 n a b s) (show s.length ≤ 1000 from hs)
 have hll := m1 n.Under (Q9 n a b s)
 refine R2 ?_
 refine K1 _ [(0, false), (1, false), (2, false), (3, false), (4, false), (5, false), (6, false), (7, false), (8, false), (9, false), (10, false), (11, false), (12, false), (13, false), (14, false), (15, true), (16, true), (17, false), (18, false)] qz8 qz8 rfl Q0 ?_
 refine R10 ?_
 refine M5 rfl rfl rfl (fun ext => B3 rfl Tryz.call108 rfl (AV4 n a b hg ha hb) (A1 (A0 rfl) (A1 (A0 rfl) (A1 (A0 rfl) A3)))) ?_
 refine R3 ?_
 refine M5 rfl rfl rfl (fun ext => B3 rfl Tryz.call91 rfl (AI2 n.Under (Q9 n a b s) qz6) (A1 (A0 rfl) (A1 (A0 rfl) A3))) ?_
 refine N1 rfl rfl rfl (E6 [] rfl Tryz.call51 rfl (Ah4 n (L2 n.Under (Q9 n a b s)) qz6 qz6) (A1 (A0 rfl) (A1 (A0 rfl) A3)) rfl) (fun a _ => qz2) ?_
 intro x46 ok46
 refine N1 rfl rfl rfl (E6 [2, 2] rfl Tryz.call90 rfl (Ao7 (netU n (L2 n.Under (Q9 n a b s))) x46.1 x46.2 hls) (A1 (A0 rfl) A3) rfl) (fun a _ => qz2) ?_
 intro x47 ok47
 refine R7 ?_
 exact F1 [2, 2] (x47.1, x47.2) (trivial) rfl B6 (L7 rfl D1 (B2 (C3 (ys := _) 0 rfl rfl C2 B1 rfl) (B2 (A8 rfl B6) E3)))
theorem AS0 (n : D5) (hs : n.size ≤ 1048576) : F0 Tryz.prog 85 [AV.agg n.cs] [] (fun _ : Value × Value => True) (fun x => [.arr x.1 3 1 ((tickN n).1.Homes.map fun x => [AV.int x]), .arr x.2 68 4 ((tickN n).1.Under.map A7.cs)]) (fun x => AV.tup [AV.agg (AA5 (tickN n).1 x.1 x.2), AV.bool (tickN n).2]) := by
 obtain ⟨q1, q2, q3⟩ := N8 hs
 refine E1 Tryz.func85 rfl Tryz.ntmps85 rfl ?_
 refine R3 ?_
 intro b1
 refine R1 ?_
 intro b2
 refine R6 ?_
 refine A2 rfl (B3 rfl Tryz.call33 rfl (S5 n hs) (A1 (A0 rfl) A3)) ?_
 refine R2 ?_
 refine A6 (A0 rfl) ?_ ?_
 ·intro h7
  rw [show tickN n = (T3, false) from if_neg (by intro k; rw [Bool.and_eq_true] at k; rw [k.1] at h7; cases h7)]
  refine R7 ?_
  refine K8 3 1 ?_
  refine K8 68 4 ?_
  exact F1 [1, 0] ((Value.slice none 0 0), (Value.slice none 0 0)) (trivial) rfl B6 (L7 rfl D1 (B2 (C3 (ys := _) 2 rfl rfl C2 B1 rfl) (B2 (A8 rfl B6) E3)))
 intro h7
 have hg : goodNet n = true := (by simpa using h7)
 rw [← At1 hg]
 have hnw := (N2 hg).1
 have hns := d9 hg
 refine R6 ?_
 refine E5 [] rfl rfl rfl rfl Tryz.call51 rfl (Ax4 n qz6 qz6) (A1 (A0 rfl) (A1 (A0 rfl) A3)) rfl ?_
 intro x12 ok12
 refine R1 ?_
 intro b4
 refine R13 ?_
 refine E5 [1, 1] rfl rfl rfl rfl Tryz.call90 rfl (Ao7 { n with Now := n.Now + 1 } x12.1 x12.2 (by show n.Homes.length + sizeL A7.size n.Under ≤ _; exact hs)) (A1 (A0 rfl) A3) rfl ?_
 intro x18 ok18
 refine R6 ?_
 exact F1 [0, 0] (x18.1, x18.2) (trivial) rfl B6 (L7 rfl D1 (B2 (C3 (ys := _) 3 rfl rfl C2 B1 rfl) (B2 (A8 rfl B6) E3)))
end Go.Proofs.YtkibefcceekmnaaGreatDoor
namespace Go.M
open Go.AV
theorem Ax6 {n : D5} (hg : goodNet n = true) : n.Homes.length ≤ 5 ∧ n.Under.length ≤ 60 ∧ ∀ l ∈ n.Under, l.Body.length ≤ 40 :=
  ⟨(N2 hg).2.1.2, (J2 hg).1, fun l hl => by have h9 := Z4 ((J2 hg).2.1 l hl); omega⟩
theorem AA0 {n : D5} (h1 : n.Homes.length ≤ 10) (h2 : n.Under.length ≤ 70) (h3 : ∀ l ∈ n.Under, l.Body.length ≤ 40) : n.size ≤ 10000 := by
  have h9 := AN7 (c := 40) h3
  have h8 : n.Under.length * (40 + 1) ≤ 70 * (40 + 1) := Nat.mul_le_mul_right _ h2
  unfold D5.size
  omega
end Go.M
namespace Go.Proofs.YtkibefcceekmnaaGreatDoor
open Go Go.AV Go.M
attribute [local irreducible] OpW OpA OpS AWP D3 P2 F0 OpE RetOk K2 M3 Le Ev I4 Q8 Int.tmod Int.tdiv IntKind.wrap
theorem Ax7 (b : Nat) (code : List Int) (hcode : d6 code) (c : L5) (hp : c.p ≤ 1000000) : F0 Tryz.prog 62 [AV.ptr b 0] [.box b 44 (Q4 code c)] (fun x : L5 × D5 × Value × Value => x.1.p ≤ c.p + 400 ∧ goodNet x.2.1 = true) (fun x => [.box b 44 (Q4 code x.1), .arr x.2.2.1 3 1 (x.2.1.Homes.map fun x => [AV.int x]), .arr x.2.2.2 68 4 (x.2.1.Under.map A7.cs)]) (fun x => AV.agg (AA5 x.2.1 x.2.2.1 x.2.2.2)) := by
 refine E1 Tryz.func62 rfl Tryz.ntmps62 rfl ?_
 refine R3 ?_
 intro b2
 refine R3 ?_
 refine P4 rfl rfl rfl rfl B5 D0 ?_
 intro v12
 refine R5 ?_
 refine E5 [2] rfl rfl rfl rfl Tryz.call14 rfl (H0 _ _ hcode _ _ qz6 qz6) (A1 (A0 rfl) (A1 D4 A3)) rfl ?_
 intro x14 ok14
 obtain ⟨m0, hm0⟩ : ∃ n0 : Nat, x14.2 = n0 := ⟨x14.2.toNat, by omega⟩
 refine R9 ?_
 refine AWP.le (C7 [0, 0] rfl) ?_
 refine d7 [(0, _), (2, _), (4, _)] _ (fun (i : Nat) (cc : L5) (l : List Int) (v : Value) => i ≤ 1 + m0 ∧ l.length = i ∧ cc.p ≤ c.p + 2 + 2 * i ∧ ∀ y ∈ l, 0 ≤ y ∧ y ≤ 2) (fun (i : Nat) (cc : L5) (l : List Int) (v : Value) => [.box b 44 (Q4 code cc), .arr v 3 1 (l.map fun x => [AV.int x])]) (fun (i : Nat) (cc : L5) (l : List Int) (v : Value) => [(3, AV.is v), (5, AV.int i)]) (fun (i : Nat) (cc : L5) (l : List Int) (v : Value) => 1 + m0 - i) (0) (x14.1) ([]) (v12) ?_ (N7 B6 ⟨rfl, rfl, rfl, rfl, rfl, trivial⟩) ?_
 ·exact ⟨Nat.zero_le _, rfl, by omega, fun y h => by cases h⟩
 intro i cc l v hinv
 refine R7 ?_
 refine A6 (A0 rfl) ?_ ?_
 ·intro h18
  have k18 := of_decide_eq_true h18; try simp only [A4] at k18
  have hlt : i < 1 + m0 := by omega
  have hll := hinv.2.1
  refine R6 ?_
  refine E5 [0] rfl rfl rfl rfl Tryz.call14 rfl (H0 _ _ hcode _ _ qz6 qz6) (A1 (A0 rfl) (A1 D4 A3)) rfl ?_
  intro x23 ok23
  refine R1 ?_
  refine N0 (by' := 8) 1 rfl rfl rfl rfl B5 Tryz.type3 rfl rfl rfl rfl rfl rfl (A0 rfl) (A0 rfl) rfl o4 ?_
  intro v25_1
  refine R7 ?_
  refine Q6 i cc l v (i + 1) (x23.1) (l ++ [x23.2]) (v25_1) ?_ ?_ (Le.trans (C7 [0, 0] rfl) (N7 (by first | rfl | (rw [show (l ++ [x23.2]).map (fun x => [AV.int x]) = l.map (fun x => [AV.int x]) ++ [[AV.int x23.2]] from List.map_append]; rfl)) ⟨rfl, rfl, rfl, rfl, rfl, trivial⟩))
  ·exact ⟨by omega, by rw [H6, hinv.2.1]; rfl, by omega, Ao5 hinv.2.2.2 ok23.2⟩
  omega
 intro h18
 have k18 := of_decide_eq_false h18; try simp only [A4] at k18
 have hie : i = 1 + m0 := by omega
 have hll := hinv.2.1
 refine R2 ?_
 refine AWP.le (Ak5 [1] 3 rfl rfl (I5 (D9 (i := 0) rfl) F5) (K9 0 rfl rfl M7)) ?_
 refine R4 ?_
 refine E5 [0] rfl rfl rfl rfl Tryz.call15 rfl (J4 _ _ hcode _ ([(0), (1), (5), (20)] : List Int) D1 qz6) (A1 (A0 rfl) (A1 (A0 rfl) A3)) rfl ?_
 intro x30 ok30
 have hgn : goodNet ⟨0, l, x30.2, []⟩ = true := Ah3 qz6 hinv.2.2.2 (by have h9 := ok30.2; simp only [List.mem_cons, List.mem_nil_iff, or_false] at h9; omega)
 refine E5 [] rfl rfl rfl rfl Tryz.call92 rfl (Ax5 l x30.2 qz6 hgn) (A1 (A0 rfl) (A1 (A0 rfl) A3)) rfl ?_
 intro x31 ok31
 refine R4 ?_
 intro b6
 refine R6 ?_
 refine E5 [3] rfl rfl rfl rfl Tryz.call14 rfl (H0 _ _ hcode _ _ qz6 qz6) (A1 (A0 rfl) (A1 D4 A3)) rfl ?_
 intro x35 ok35
 obtain ⟨k0, hk0⟩ : ∃ n0 : Nat, x35.2 = n0 := ⟨x35.2.toNat, by omega⟩
 refine R8 ?_
 refine f5 qz45 ?_
 refine AWP.le (C7 [0, 0, 0, 0, 0] rfl) ?_
 refine d7 [(0, _), (2, _), (4, _), (6, _), (8, _)] _ (fun (j : Nat) (cd : L5) (n : D5) (y : Value × Value) => j ≤ k0 ∧ cd.p ≤ c.p + 100 + 20 * j ∧ goodNet n = true ∧ n.Now ≤ j) (fun (j : Nat) (cd : L5) (n : D5) (y : Value × Value) => [.box b 44 (Q4 code cd), .box b6 28 (AA5 n y.1 y.2), .arr y.1 3 1 (n.Homes.map fun x => [AV.int x]), .arr y.2 68 4 (n.Under.map A7.cs), .box b2 28 (List.map zeroA (Value.agg #[Value.int IntKind.i64 0, Value.slice none 0 0, Value.int IntKind.i64 0, Value.slice none 0 0]).cells.toList)]) (fun (j : Nat) (cd : L5) (n : D5) (y : Value × Value) => [(9, AV.int j)]) (fun (j : Nat) (cd : L5) (n : D5) (y : Value × Value) => k0 - j) (0) (x35.1) (⟨0, l, x30.2, []⟩) (x31) ?_ (N7 B6 ⟨rfl, rfl, rfl, rfl, rfl, rfl, trivial⟩) ?_
 ·exact ⟨Nat.zero_le _, by omega, hgn, Int.le_refl 0⟩
 intro j cd n y hinv
 refine R7 ?_
 refine A6 (A0 rfl) ?_ ?_
 ·intro h38
  have k38 := of_decide_eq_true h38; try simp only [A4] at k38
  have hlt : j < k0 := by omega
  have hgn9 := hinv.2.2.1
  have hns9 := d9 hgn9
  refine R5 ?_
  refine Ay9 [(0, _), (2, _), (4, _), (6, _), (8, _), (9, _), (36, _), (37, _), (38, _)] ⟨rfl, rfl, rfl, rfl, rfl, rfl, rfl, rfl, rfl, trivial⟩ (fun (b10 : Nat) (ce : L5) (m : (D5 × Bool) × (Value × Value)) => ce.p ≤ cd.p + 6 ∧ (m.1.2 = true → goodNet m.1.1 = true ∧ m.1.1.Now = n.Now)) (fun (b10 : Nat) (ce : L5) (m : (D5 × Bool) × (Value × Value)) => [.box b10 28 (AA5 m.1.1 m.2.1 m.2.2), .arr m.2.1 3 1 (m.1.1.Homes.map fun x => [AV.int x]), .arr m.2.2 68 4 (m.1.1.Under.map A7.cs), .box b 44 (Q4 code ce), .box b6 28 (AA5 n y.1 y.2), .arr y.1 3 1 (n.Homes.map fun x => [AV.int x]), .arr y.2 68 4 (n.Under.map A7.cs), .box b2 28 (List.map zeroA (Value.agg #[Value.int IntKind.i64 0, Value.slice none 0 0, Value.int IntKind.i64 0, Value.slice none 0 0]).cells.toList)]) (fun (b10 : Nat) (ce : L5) (m : (D5 × Bool) × (Value × Value)) => [(10, AV.ptr b10 0), (11, AV.bool m.1.2)]) ?_ ?_
  ·skip
   refine f5 qz45 ?_
   refine AWP.le (C7 [1] rfl) ?_
   refine K7 _ 16 (.pure 0 (.pure 1 (.pure 2 (.pure 4 (.pure 5 (.pure 7 (.pure 8 (.e2 3 (.e2 6 (.e2 9 (.e2 10 (.pure 11 (.pure 12 (.pure 13 (.e1 14 (.e1 15 .nil))))) 14 (.e1 10 (.pure 11 (.pure 12 (.pure 13 (.e1 15 .nil)))))) 14 (.e1 9 (.e1 10 (.pure 11 (.pure 12 (.pure 13 (.e1 15 .nil))))))) 14 (.e1 6 (.e1 9 (.e1 10 (.pure 11 (.pure 12 (.pure 13 (.e1 15 .nil)))))))) 14 (.e1 3 (.e1 6 (.e1 9 (.e1 10 (.pure 11 (.pure 12 (.pure 13 (.e1 15 .nil)))))))))))))))) qz8 qz8 rfl (U0 1) ?_
   refine R6 ?_
   refine M6 rfl rfl rfl (fun ext => AW5 rfl Tryz.underlying109 Tryz.sizeOf9 Tryz.zeroValue9 rfl rfl rfl rfl (B7 (W5 (l := [97]) rfl) (u3 _) (B7 (W5 (l := [98, 50]) rfl) (u3 _) (B7 (W5 (l := [104, 101, 108, 108, 111]) rfl) (u3 _) I0))) rfl rfl) ?_
   refine Y8 ?_ ?_
   ·refine C4 rfl rfl rfl (E6 [1] rfl Tryz.call14 rfl (H0 _ _ hcode _ _ qz6 qz6) (A1 (A0 rfl) (A1 (A0 rfl) A3)) rfl) (fun a _ => qz2) ?_
    intro x45 ok45
    refine Y8 ?_ ?_
    ·refine C4 rfl rfl rfl (E6 [4] rfl Tryz.call14 rfl (H0 _ _ hcode _ _ qz6 qz6) (A1 (A0 rfl) (A1 (A0 rfl) A3)) rfl) (fun a _ => qz2) ?_
     intro x48 ok48
     refine Y8 ?_ ?_
     ·refine C4 rfl rfl rfl (E6 [4] rfl Tryz.call94 rfl (AI6 _ _ hcode _ ([[97], [98, 50], [104, 101, 108, 108, 111]] : List Str) D1 qz6) (A1 (A0 rfl) (A1 (A0 rfl) A3)) rfl) (fun a _ => qz2) ?_
      intro x51 ok51
      refine Y8 ?_ ?_
      ·refine C4 rfl rfl rfl (AB6 [] rfl Tryz.call93 rfl (w1 n x45.2 x48.2 x51.2 hgn9 qz72) rfl (F6 (f4 (A0 rfl) (W6 (D8 G5 (D8 (I5 (D9 (i := 1) rfl) F5) (D8 G5 (D8 (I5 (D9 (i := 2) rfl) F5) T1)))))) (F6 (evb (A0 rfl)) (F6 (evb (A0 rfl)) (F6 (evb (A0 rfl)) N3)))) qz0 qz0 qz0) (fun a _ => qz2) ?_
       intro x52 ok52
       refine R4 ?_
       refine C4 rfl rfl rfl (G4 rfl Tryz.zeroValue28 rfl) (fun a _ => qz2) ?_
       intro b10 _
       refine R1 ?_
       refine Y4 rfl rfl rfl (N4 7 rfl rfl (A0 rfl) (A0 rfl) (F2 _) rfl B1 rfl) (fun a _ => qz2) ?_
       intro _ _
       refine R3 ?_
       exact ⟨b10, x51.1, (P3 n x45.2 x48.2 x51.2, x52), ⟨qz6, fun h55 => ⟨(s3 hgn9 h55).1, AG6 h55⟩⟩, Le.trans (C7 [7, 5, 5, 4, 0, 0, 0, 0] rfl) (E8 0 qz7 ⟨rfl, rfl, rfl, rfl, rfl, rfl, rfl, rfl, rfl, rfl, rfl, trivial⟩)⟩
      refine C4 rfl rfl rfl (G4 rfl Tryz.zeroValue28 rfl) (fun a _ => qz2) ?_
      intro b10 _
      refine R1 ?_
      refine C4 rfl rfl rfl (AB6 [] rfl Tryz.call93 rfl (w1 n x45.2 x48.2 x51.2 hgn9 qz72) rfl (F6 (f4 (A0 rfl) (W6 (D8 G5 (D8 (I5 (D9 (i := 1) rfl) F5) (D8 G5 (D8 (I5 (D9 (i := 2) rfl) F5) T1)))))) (F6 (evb (A0 rfl)) (F6 (evb (A0 rfl)) (F6 (evb (A0 rfl)) N3)))) qz0 qz0 qz0) (fun a _ => qz2) ?_
      intro x52 ok52
      refine R4 ?_
      refine Y4 rfl rfl rfl (N4 5 rfl rfl (A0 rfl) (A0 rfl) (F2 _) rfl B1 rfl) (fun a _ => qz2) ?_
      intro _ _
      refine R3 ?_
      exact ⟨b10, x51.1, (P3 n x45.2 x48.2 x51.2, x52), ⟨qz6, fun h55 => ⟨(s3 hgn9 h55).1, AG6 h55⟩⟩, Le.trans (C7 [5, 5, 5, 4, 0, 0, 0, 0] rfl) (E8 0 qz7 ⟨rfl, rfl, rfl, rfl, rfl, rfl, rfl, rfl, rfl, rfl, rfl, trivial⟩)⟩
     refine C4 rfl rfl rfl (G4 rfl Tryz.zeroValue28 rfl) (fun a _ => qz2) ?_
     intro b10 _
     refine R1 ?_
     refine C4 rfl rfl rfl (E6 [4] rfl Tryz.call94 rfl (AI6 _ _ hcode _ ([[97], [98, 50], [104, 101, 108, 108, 111]] : List Str) D1 qz6) (A1 (A0 rfl) (A1 (A0 rfl) A3)) rfl) (fun a _ => qz2) ?_
     intro x51 ok51
     refine R1 ?_
     refine C4 rfl rfl rfl (AB6 [] rfl Tryz.call93 rfl (w1 n x45.2 x48.2 x51.2 hgn9 qz72) rfl (F6 (f4 (A0 rfl) (W6 (D8 G5 (D8 (I5 (D9 (i := 1) rfl) F5) (D8 G5 (D8 (I5 (D9 (i := 2) rfl) F5) T1)))))) (F6 (evb (A0 rfl)) (F6 (evb (A0 rfl)) (F6 (evb (A0 rfl)) N3)))) qz0 qz0 qz0) (fun a _ => qz2) ?_
     intro x52 ok52
     refine R4 ?_
     refine Y4 rfl rfl rfl (N4 4 rfl rfl (A0 rfl) (A0 rfl) (F2 _) rfl B1 rfl) (fun a _ => qz2) ?_
     intro _ _
     refine R3 ?_
     exact ⟨b10, x51.1, (P3 n x45.2 x48.2 x51.2, x52), ⟨qz6, fun h55 => ⟨(s3 hgn9 h55).1, AG6 h55⟩⟩, Le.trans (C7 [4, 5, 5, 4, 0, 0, 0, 0] rfl) (E8 0 qz7 ⟨rfl, rfl, rfl, rfl, rfl, rfl, rfl, rfl, rfl, rfl, rfl, trivial⟩)⟩
    refine C4 rfl rfl rfl (G4 rfl Tryz.zeroValue28 rfl) (fun a _ => qz2) ?_
    intro b10 _
    refine R1 ?_
    refine C4 rfl rfl rfl (E6 [4] rfl Tryz.call14 rfl (H0 _ _ hcode _ _ qz6 qz6) (A1 (A0 rfl) (A1 (A0 rfl) A3)) rfl) (fun a _ => qz2) ?_
    intro x48 ok48
    refine R1 ?_
    refine C4 rfl rfl rfl (E6 [5] rfl Tryz.call94 rfl (AI6 _ _ hcode _ ([[97], [98, 50], [104, 101, 108, 108, 111]] : List Str) D1 qz6) (A1 (A0 rfl) (A1 (A0 rfl) A3)) rfl) (fun a _ => qz2) ?_
    intro x51 ok51
    refine R1 ?_
    refine C4 rfl rfl rfl (AB6 [] rfl Tryz.call93 rfl (w1 n x45.2 x48.2 x51.2 hgn9 qz72) rfl (F6 (f4 (A0 rfl) (W6 (D8 G5 (D8 (I5 (D9 (i := 1) rfl) F5) (D8 G5 (D8 (I5 (D9 (i := 2) rfl) F5) T1)))))) (F6 (evb (A0 rfl)) (F6 (evb (A0 rfl)) (F6 (evb (A0 rfl)) N3)))) qz0 qz0 qz0) (fun a _ => qz2) ?_
    intro x52 ok52
    refine R4 ?_
    refine Y4 rfl rfl rfl (N4 4 rfl rfl (A0 rfl) (A0 rfl) (F2 _) rfl B1 rfl) (fun a _ => qz2) ?_
    intro _ _
    refine R3 ?_
    exact ⟨b10, x51.1, (P3 n x45.2 x48.2 x51.2, x52), ⟨qz6, fun h55 => ⟨(s3 hgn9 h55).1, AG6 h55⟩⟩, Le.trans (C7 [4, 5, 5, 4, 0, 0, 0, 0] rfl) (E8 0 qz7 ⟨rfl, rfl, rfl, rfl, rfl, rfl, rfl, rfl, rfl, rfl, rfl, trivial⟩)⟩
   refine C4 rfl rfl rfl (G4 rfl Tryz.zeroValue28 rfl) (fun a _ => qz2) ?_
   intro b10 _
   refine R1 ?_
   refine C4 rfl rfl rfl (E6 [1] rfl Tryz.call14 rfl (H0 _ _ hcode _ _ qz6 qz6) (A1 (A0 rfl) (A1 (A0 rfl) A3)) rfl) (fun a _ => qz2) ?_
   intro x45 ok45
   refine R1 ?_
   refine C4 rfl rfl rfl (E6 [5] rfl Tryz.call14 rfl (H0 _ _ hcode _ _ qz6 qz6) (A1 (A0 rfl) (A1 (A0 rfl) A3)) rfl) (fun a _ => qz2) ?_
   intro x48 ok48
   refine R1 ?_
   refine C4 rfl rfl rfl (E6 [5] rfl Tryz.call94 rfl (AI6 _ _ hcode _ ([[97], [98, 50], [104, 101, 108, 108, 111]] : List Str) D1 qz6) (A1 (A0 rfl) (A1 (A0 rfl) A3)) rfl) (fun a _ => qz2) ?_
   intro x51 ok51
   refine R1 ?_
   refine C4 rfl rfl rfl (AB6 [] rfl Tryz.call93 rfl (w1 n x45.2 x48.2 x51.2 hgn9 qz72) rfl (F6 (f4 (A0 rfl) (W6 (D8 G5 (D8 (I5 (D9 (i := 1) rfl) F5) (D8 G5 (D8 (I5 (D9 (i := 2) rfl) F5) T1)))))) (F6 (evb (A0 rfl)) (F6 (evb (A0 rfl)) (F6 (evb (A0 rfl)) N3)))) qz0 qz0 qz0) (fun a _ => qz2) ?_
   intro x52 ok52
   refine R4 ?_
   refine Y4 rfl rfl rfl (N4 4 rfl rfl (A0 rfl) (A0 rfl) (F2 _) rfl B1 rfl) (fun a _ => qz2) ?_
   intro _ _
   refine R3 ?_
   exact ⟨b10, x51.1, (P3 n x45.2 x48.2 x51.2, x52), ⟨qz6, fun h55 => ⟨(s3 hgn9 h55).1, AG6 h55⟩⟩, Le.trans (C7 [4, 5, 5, 4, 0, 0, 0, 0] rfl) (E8 0 qz7 ⟨rfl, rfl, rfl, rfl, rfl, rfl, rfl, rfl, rfl, rfl, rfl, trivial⟩)⟩
  intro b10 ce m hIR12
  refine R4 ?_
  refine A6 (A0 rfl) ?_ ?_
  ·intro h55
   have hs2 := hIR12.2 h55
   have hns8 := d9 hs2.1
   refine R7 ?_
   refine E5 [3] rfl rfl rfl rfl Tryz.call13 rfl (v7 _ _ hcode _ _ qz6 qz6) (A1 (A0 rfl) (A1 D4 A3)) rfl ?_
   intro x58 ok58
   refine R1 ?_
   refine A6 (A0 rfl) ?_ ?_
   ·intro h58
    refine R2 ?_
    refine Af5 [] rfl rfl rfl rfl Tryz.call85 rfl (AS0 _ (by first | exact Nat.le_trans hns8 D1 | exact Nat.le_trans hns9 D1)) rfl (F6 (f4 (A0 rfl) (W6 (D8 G5 (D8 (I5 (D9 (i := 2) rfl) F5) (D8 G5 (D8 (I5 (D9 (i := 3) rfl) F5) T1)))))) N3) qz0 qz0 qz0 ?_
    intro x61 ok61
    refine R10 ?_
    refine Q6 j cd n y (j + 1) (x58.1) ((tickN m.1.1).1) (x61) ?_ ?_ (Le.trans (C7 [3, 3, 3, 4, 4, 2, 2, 0, 0, 0] rfl) (E8 5 B6 ⟨rfl, rfl, rfl, rfl, rfl, rfl, trivial⟩))
    ·exact ⟨by omega, by omega, (AD6 hs2.1 qz6).1, by rw [(AD6 hs2.1 qz6).2]; omega⟩
    omega
   intro h58
   refine R6 ?_
   refine Q6 j cd n y (j + 1) (x58.1) (m.1.1) (m.2) ?_ ?_ (Le.trans (C7 [1, 4, 4, 0, 2, 0, 0, 0] rfl) (E8 3 B6 ⟨rfl, rfl, rfl, rfl, rfl, rfl, trivial⟩))
   ·exact ⟨by omega, by omega, hs2.1, by omega⟩
   omega
  intro h55
  refine R4 ?_
  refine E5 [3] rfl rfl rfl rfl Tryz.call13 rfl (v7 _ _ hcode _ _ qz6 qz6) (A1 (A0 rfl) (A1 D4 A3)) rfl ?_
  intro x58 ok58
  refine R1 ?_
  refine A6 (A0 rfl) ?_ ?_
  ·intro h58
   refine R2 ?_
   refine Af5 [] rfl rfl rfl rfl Tryz.call85 rfl (AS0 _ (by first | exact Nat.le_trans hns8 D1 | exact Nat.le_trans hns9 D1)) rfl (F6 (f4 (A0 rfl) (W6 (D8 G5 (D8 (I5 (D9 (i := 5) rfl) F5) (D8 G5 (D8 (I5 (D9 (i := 6) rfl) F5) T1)))))) N3) qz0 qz0 qz0 ?_
   intro x61 ok61
   refine R10 ?_
   refine Q6 j cd n y (j + 1) (x58.1) ((tickN n).1) (x61) ?_ ?_ (Le.trans (C7 [3, 3, 3, 4, 4, 2, 2, 0, 0, 0] rfl) (E8 5 B6 ⟨rfl, rfl, rfl, rfl, rfl, rfl, trivial⟩))
   ·exact ⟨by omega, by omega, (AD6 hinv.2.2.1 qz6).1, by rw [(AD6 hinv.2.2.1 qz6).2]; omega⟩
   omega
  intro h58
  refine R6 ?_
  refine Q6 j cd n y (j + 1) (x58.1) (n) (y) ?_ ?_ (Le.trans (C7 [1, 1, 1, 0, 0, 0, 0, 0] rfl) (E8 3 B6 ⟨rfl, rfl, rfl, rfl, rfl, rfl, trivial⟩))
  ·exact ⟨by omega, by omega, hinv.2.2.1, by omega⟩
  omega
 intro h38
 have k38 := of_decide_eq_false h38; try simp only [A4] at k38
 refine R7 ?_
 (refine F1 [0, 1, 1] ((cd, n, y)) ?_ rfl t6 (H4 rfl (C3 (ys := _) 4 rfl rfl C2 B1 rfl)); exact ⟨show cd.p ≤ _ by omega, hinv.2.2.1⟩)
theorem BC8 (b : Nat) (code : List Int) (hcode : d6 code) (c : L5) (hp : c.p ≤ 900000) : F0 Tryz.prog 31 [AV.ptr b 0] [.box b 44 (Q4 code c)] (fun x : L5 × D5 × Value × Value => x.1.p ≤ c.p + 1000 ∧ x.2.1.size ≤ 10000) (fun x => [.box b 44 (Q4 code x.1), .arr x.2.2.1 3 1 (x.2.1.Homes.map fun x => [AV.int x]), .arr x.2.2.2 68 4 (x.2.1.Under.map A7.cs)]) (fun x => AV.agg (AA5 x.2.1 x.2.2.1 x.2.2.2)) := by
 refine E1 Tryz.func31 rfl Tryz.ntmps31 rfl ?_
 refine R3 ?_
 intro b2
 refine R4 ?_
 refine E5 [1] rfl rfl rfl rfl Tryz.call62 rfl (Ax7 _ _ hcode _ qz6) (A1 (A0 rfl) A3) rfl ?_
 intro x6 ok6
 have hp6' : x6.1.p ≤ c.p + 400 := ok6.1
 obtain ⟨q1, q2, q3⟩ := Ax6 ok6.2
 refine R1 ?_
 intro b3
 refine R6 ?_
 refine E5 [1] rfl rfl rfl rfl Tryz.call14 rfl (H0 _ _ hcode _ _ qz6 qz6) (A1 (A0 rfl) (A1 D4 A3)) rfl ?_
 intro x8 ok8
 refine R7 ?_
 refine A6 (A0 rfl) ?_ ?_
 ·intro h9
  have k9 := G2 h9; try simp only [A4] at k9
  have hsz : ∀ z : Int, ({ x6.2.1 with Now := z } : D5).size ≤ 10000 := fun z => AA0 (Nat.le_trans q1 D1) (Nat.le_trans q2 D1) q3
  refine R3 ?_
  refine E5 [0] rfl rfl rfl rfl Tryz.call15 rfl (J4 _ _ hcode _ ([(-1), (100000), (100001)] : List Int) D1 qz6) (A1 (A0 rfl) (A1 (A0 rfl) A3)) rfl ?_
  intro x13 ok13
  refine R9 ?_
  (refine F1 [0, 1, 1] ((x13.1, { x6.2.1 with Now := x13.2 }, x6.2.2.1, x6.2.2.2)) ?_ rfl AJ2 (H4 rfl (C3 (ys := _) 4 rfl rfl C2 B1 rfl)); first | exact ⟨by dsimp only; omega, hsz _⟩ | exact ⟨by dsimp only; omega, hsz 0⟩ | exact ⟨by dsimp only; omega, hsz _ _ _⟩)
 intro h9
 have k9 := G1 h9; try simp only [A4] at k9
 refine R5 ?_
 refine A6 (A0 rfl) ?_ ?_
 ·intro h15
  have k15 := G2 h15; try simp only [A4] at k15
  have hsz : ∀ z : Int, ({ x6.2.1 with Homes := x6.2.1.Homes ++ [z] } : D5).size ≤ 10000 := fun z => AA0 (by show (x6.2.1.Homes ++ [z]).length ≤ 10; rw [H6]; exact Nat.le_trans (Nat.add_le_add_right q1 1) D1) (Nat.le_trans q2 D1) q3
  refine K7 [] 7 (.pure 0 (.pure 2 (.pure 3 (.e2 1 (.e1 4 (.pure 5 (.e1 6 .nil))) 4 (.pure 5 (.e1 1 (.e1 6 .nil))))))) qz8 qz8 rfl AE8 ?_
  refine R3 ?_
  refine Y8 ?_ ?_
  ·refine C4 rfl rfl rfl (P6 (d8 1 rfl (A0 rfl) rfl S6 rfl)) (fun a _ => qz2) ?_
   intro _ _
   refine R1 ?_
   refine C4 rfl rfl rfl (E6 [0] rfl Tryz.call15 rfl (J4 _ _ hcode _ ([(2), (3), (-1)] : List Int) D1 qz6) (A1 (A0 rfl) (A1 (A0 rfl) A3)) rfl) (fun a _ => qz2) ?_
   intro x21 ok21
   refine R2 ?_
   refine C4 rfl rfl rfl (I9 (by' := 8) 1 rfl B5 Tryz.type3 rfl rfl rfl rfl rfl rfl (A0 rfl) (A0 rfl) rfl o4) (fun a _ => qz2) ?_
   intro v23_1 _
   refine R2 ?_
   refine O5 1 rfl fun one_v23_1 => ?_
   refine M2 0 rfl rfl rfl (A0 rfl) (A0 rfl) (F4 one_v23_1) rfl I6 rfl ?_
   refine R7 ?_
   (refine F1 [4, 1, 1] ((x21.1, { x6.2.1 with Homes := x6.2.1.Homes ++ [x21.2] }, v23_1, x6.2.2.2)) ?_ rfl AJ2 (H4 rfl (C3 (ys := _) 3 rfl rfl C2 B1 rfl)); first | exact ⟨by dsimp only; omega, hsz _⟩ | exact ⟨by dsimp only; omega, hsz 0⟩ | exact ⟨by dsimp only; omega, hsz _ _ _⟩)
  refine C4 rfl rfl rfl (E6 [0] rfl Tryz.call15 rfl (J4 _ _ hcode _ ([(2), (3), (-1)] : List Int) D1 qz6) (A1 (A0 rfl) (A1 (A0 rfl) A3)) rfl) (fun a _ => qz2) ?_
  intro x21 ok21
  refine R2 ?_
  refine C4 rfl rfl rfl (P6 (d8 0 rfl (A0 rfl) rfl S6 rfl)) (fun a _ => qz2) ?_
  intro _ _
  refine R1 ?_
  refine C4 rfl rfl rfl (I9 (by' := 8) 1 rfl B5 Tryz.type3 rfl rfl rfl rfl rfl rfl (A0 rfl) (A0 rfl) rfl o4) (fun a _ => qz2) ?_
  intro v23_2 _
  refine R2 ?_
  refine O5 1 rfl fun one_v23_2 => ?_
  refine M2 0 rfl rfl rfl (A0 rfl) (A0 rfl) (F4 one_v23_2) rfl I6 rfl ?_
  refine R7 ?_
  (refine F1 [4, 1, 1] ((x21.1, { x6.2.1 with Homes := x6.2.1.Homes ++ [x21.2] }, v23_2, x6.2.2.2)) ?_ rfl AJ2 (H4 rfl (C3 (ys := _) 3 rfl rfl C2 B1 rfl)); first | exact ⟨by dsimp only; omega, hsz _⟩ | exact ⟨by dsimp only; omega, hsz 0⟩ | exact ⟨by dsimp only; omega, hsz _ _ _⟩)
 intro h15
 have k15 := G1 h15; try simp only [A4] at k15
 refine R5 ?_
 refine A6 (A0 rfl) ?_ ?_
 ·intro h25
  have k25 := G2 h25; try simp only [A4] at k25
  have hsz : ∀ z : Int, ({ x6.2.1 with Far := z } : D5).size ≤ 10000 := fun z => AA0 (Nat.le_trans q1 D1) (Nat.le_trans q2 D1) q3
  refine R3 ?_
  refine E5 [0] rfl rfl rfl rfl Tryz.call15 rfl (J4 _ _ hcode _ ([(-1), (20), (21)] : List Int) D1 qz6) (A1 (A0 rfl) (A1 (A0 rfl) A3)) rfl ?_
  intro x29 ok29
  refine R9 ?_
  (refine F1 [0, 1, 1] ((x29.1, { x6.2.1 with Far := x29.2 }, x6.2.2.1, x6.2.2.2)) ?_ rfl AJ2 (H4 rfl (C3 (ys := _) 4 rfl rfl C2 B1 rfl)); first | exact ⟨by dsimp only; omega, hsz _⟩ | exact ⟨by dsimp only; omega, hsz 0⟩ | exact ⟨by dsimp only; omega, hsz _ _ _⟩)
 intro h25
 have k25 := G1 h25; try simp only [A4] at k25
 refine R5 ?_
 refine A6 (A0 rfl) ?_ ?_
 ·intro h31
  have k31 := G2 h31; try simp only [A4] at k31
  have hsz : ∀ z1 z2 z3 : Int, ({ x6.2.1 with Under := x6.2.1.Under ++ [⟨z1, z2, z3, [120]⟩] } : D5).size ≤ 10000 := fun z1 z2 z3 => AA0 (Nat.le_trans q1 D1) (by show (x6.2.1.Under ++ [(⟨z1, z2, z3, [120]⟩ : A7)]).length ≤ 70; rw [H6]; exact Nat.le_trans (Nat.add_le_add_right q2 1) D1) (fun y hy => (List.mem_append.1 hy).elim (q3 y) fun e => by (rw [List.mem_singleton.1 e]; show (1 : Nat) ≤ 40; decide))
  refine K7 [] 12 (.pure 0 (.pure 2 (.pure 4 (.pure 6 (.pure 7 (.e2 1 (.e1 3 (.e1 5 (.e1 8 (.pure 9 (.pure 10 (.e1 11 .nil)))))) 3 (.e2 1 (.e1 5 (.e1 8 (.pure 9 (.pure 10 (.e1 11 .nil))))) 5 (.e2 1 (.e1 8 (.pure 9 (.pure 10 (.e1 11 .nil)))) 8 (.pure 9 (.pure 10 (.e1 1 (.e1 11 .nil)))))))))))) qz8 qz8 rfl AE8 ?_
  refine R5 ?_
  refine Y8 ?_ ?_
  ·refine C4 rfl rfl rfl (P6 (d8 1 rfl (A0 rfl) rfl Tryz.isAgg26 rfl)) (fun a _ => qz2) ?_
   intro _ _
   refine R1 ?_
   refine C4 rfl rfl rfl (E6 [0] rfl Tryz.call14 rfl (H0 _ _ hcode _ _ qz6 qz6) (A1 (A0 rfl) (A1 D4 A3)) rfl) (fun a _ => qz2) ?_
   intro x36 ok36
   refine R1 ?_
   refine C4 rfl rfl rfl (E6 [4] rfl Tryz.call14 rfl (H0 _ _ hcode _ _ qz6 qz6) (A1 (A0 rfl) (A1 D4 A3)) rfl) (fun a _ => qz2) ?_
   intro x38 ok38
   refine R1 ?_
   refine C4 rfl rfl rfl (E6 [4] rfl Tryz.call15 rfl (J4 _ _ hcode _ ([(0), (30), (100200), (100201)] : List Int) D1 qz6) (A1 (A0 rfl) (A1 (A0 rfl) A3)) rfl) (fun a _ => qz2) ?_
   intro x41 ok41
   refine M6 rfl rfl rfl (fun ext => I3 (places := #[(0, 1), (1, 1), (2, 1), (3, 1)]) rfl Q2 Tryz.zeroValue68 (fun w => by kernel_rfl) rfl (B7 (A0 rfl) (M9 _ _) (B7 (A0 rfl) (M9 _ _) (B7 (A0 rfl) (M9 _ _) (B7 (W5 (l := [120]) rfl) (u3 _) I0)))) rfl) ?_
   refine R2 ?_
   refine C4 rfl rfl rfl (I9 (by' := 40) 2 rfl A9 Tryz.type68 rfl rfl rfl rfl rfl rfl (A0 rfl) (A0 rfl) rfl o4) (fun a _ => qz2) ?_
   intro v44_3 _
   refine R2 ?_
   refine O5 2 rfl fun one_v44_3 => ?_
   refine M2 0 rfl rfl rfl (A0 rfl) (A0 rfl) (F4 one_v44_3) rfl Y7 rfl ?_
   refine R7 ?_
   (refine F1 [4, 1, 1] ((x41.1, { x6.2.1 with Under := x6.2.1.Under ++ [⟨x36.2, x38.2, x41.2, [120]⟩] }, x6.2.2.1, v44_3)) ?_ rfl AJ2 (H4 rfl (C3 (ys := _) 3 rfl rfl C2 B1 rfl)); first | exact ⟨by dsimp only; omega, hsz _⟩ | exact ⟨by dsimp only; omega, hsz 0⟩ | exact ⟨by dsimp only; omega, hsz _ _ _⟩)
  refine C4 rfl rfl rfl (E6 [0] rfl Tryz.call14 rfl (H0 _ _ hcode _ _ qz6 qz6) (A1 (A0 rfl) (A1 D4 A3)) rfl) (fun a _ => qz2) ?_
  intro x36 ok36
  refine Y8 ?_ ?_
  ·refine C4 rfl rfl rfl (P6 (d8 0 rfl (A0 rfl) rfl Tryz.isAgg26 rfl)) (fun a _ => qz2) ?_
   intro _ _
   refine R1 ?_
   refine C4 rfl rfl rfl (E6 [4] rfl Tryz.call14 rfl (H0 _ _ hcode _ _ qz6 qz6) (A1 (A0 rfl) (A1 D4 A3)) rfl) (fun a _ => qz2) ?_
   intro x38 ok38
   refine R1 ?_
   refine C4 rfl rfl rfl (E6 [4] rfl Tryz.call15 rfl (J4 _ _ hcode _ ([(0), (30), (100200), (100201)] : List Int) D1 qz6) (A1 (A0 rfl) (A1 (A0 rfl) A3)) rfl) (fun a _ => qz2) ?_
   intro x41 ok41
   refine M6 rfl rfl rfl (fun ext => I3 (places := #[(0, 1), (1, 1), (2, 1), (3, 1)]) rfl Q2 Tryz.zeroValue68 (fun w => by kernel_rfl) rfl (B7 (A0 rfl) (M9 _ _) (B7 (A0 rfl) (M9 _ _) (B7 (A0 rfl) (M9 _ _) (B7 (W5 (l := [120]) rfl) (u3 _) I0)))) rfl) ?_
   refine R2 ?_
   refine C4 rfl rfl rfl (I9 (by' := 40) 2 rfl A9 Tryz.type68 rfl rfl rfl rfl rfl rfl (A0 rfl) (A0 rfl) rfl o4) (fun a _ => qz2) ?_
   intro v44_4 _
   refine R2 ?_
   refine O5 2 rfl fun one_v44_4 => ?_
   refine M2 0 rfl rfl rfl (A0 rfl) (A0 rfl) (F4 one_v44_4) rfl Y7 rfl ?_
   refine R7 ?_
   (refine F1 [4, 1, 1] ((x41.1, { x6.2.1 with Under := x6.2.1.Under ++ [⟨x36.2, x38.2, x41.2, [120]⟩] }, x6.2.2.1, v44_4)) ?_ rfl AJ2 (H4 rfl (C3 (ys := _) 3 rfl rfl C2 B1 rfl)); first | exact ⟨by dsimp only; omega, hsz _⟩ | exact ⟨by dsimp only; omega, hsz 0⟩ | exact ⟨by dsimp only; omega, hsz _ _ _⟩)
  refine C4 rfl rfl rfl (E6 [4] rfl Tryz.call14 rfl (H0 _ _ hcode _ _ qz6 qz6) (A1 (A0 rfl) (A1 D4 A3)) rfl) (fun a _ => qz2) ?_
  intro x38 ok38
  refine Y8 ?_ ?_
  ·refine C4 rfl rfl rfl (P6 (d8 0 rfl (A0 rfl) rfl Tryz.isAgg26 rfl)) (fun a _ => qz2) ?_
   intro _ _
   refine R1 ?_
   refine C4 rfl rfl rfl (E6 [4] rfl Tryz.call15 rfl (J4 _ _ hcode _ ([(0), (30), (100200), (100201)] : List Int) D1 qz6) (A1 (A0 rfl) (A1 (A0 rfl) A3)) rfl) (fun a _ => qz2) ?_
   intro x41 ok41
   refine M6 rfl rfl rfl (fun ext => I3 (places := #[(0, 1), (1, 1), (2, 1), (3, 1)]) rfl Q2 Tryz.zeroValue68 (fun w => by kernel_rfl) rfl (B7 (A0 rfl) (M9 _ _) (B7 (A0 rfl) (M9 _ _) (B7 (A0 rfl) (M9 _ _) (B7 (W5 (l := [120]) rfl) (u3 _) I0)))) rfl) ?_
   refine R2 ?_
   refine C4 rfl rfl rfl (I9 (by' := 40) 2 rfl A9 Tryz.type68 rfl rfl rfl rfl rfl rfl (A0 rfl) (A0 rfl) rfl o4) (fun a _ => qz2) ?_
   intro v44_5 _
   refine R2 ?_
   refine O5 2 rfl fun one_v44_5 => ?_
   refine M2 0 rfl rfl rfl (A0 rfl) (A0 rfl) (F4 one_v44_5) rfl Y7 rfl ?_
   refine R7 ?_
   (refine F1 [4, 1, 1] ((x41.1, { x6.2.1 with Under := x6.2.1.Under ++ [⟨x36.2, x38.2, x41.2, [120]⟩] }, x6.2.2.1, v44_5)) ?_ rfl AJ2 (H4 rfl (C3 (ys := _) 3 rfl rfl C2 B1 rfl)); first | exact ⟨by dsimp only; omega, hsz _⟩ | exact ⟨by dsimp only; omega, hsz 0⟩ | exact ⟨by dsimp only; omega, hsz _ _ _⟩)
  refine C4 rfl rfl rfl (E6 [4] rfl Tryz.call15 rfl (J4 _ _ hcode _ ([(0), (30), (100200), (100201)] : List Int) D1 qz6) (A1 (A0 rfl) (A1 (A0 rfl) A3)) rfl) (fun a _ => qz2) ?_
  intro x41 ok41
  refine M6 rfl rfl rfl (fun ext => I3 (places := #[(0, 1), (1, 1), (2, 1), (3, 1)]) rfl Q2 Tryz.zeroValue68 (fun w => by kernel_rfl) rfl (B7 (A0 rfl) (M9 _ _) (B7 (A0 rfl) (M9 _ _) (B7 (A0 rfl) (M9 _ _) (B7 (W5 (l := [120]) rfl) (u3 _) I0)))) rfl) ?_
  refine R2 ?_
  refine C4 rfl rfl rfl (P6 (d8 0 rfl (A0 rfl) rfl Tryz.isAgg26 rfl)) (fun a _ => qz2) ?_
  intro _ _
  refine R1 ?_
  refine C4 rfl rfl rfl (I9 (by' := 40) 2 rfl A9 Tryz.type68 rfl rfl rfl rfl rfl rfl (A0 rfl) (A0 rfl) rfl o4) (fun a _ => qz2) ?_
  intro v44_6 _
  refine R2 ?_
  refine O5 2 rfl fun one_v44_6 => ?_
  refine M2 0 rfl rfl rfl (A0 rfl) (A0 rfl) (F4 one_v44_6) rfl Y7 rfl ?_
  refine R7 ?_
  (refine F1 [4, 1, 1] ((x41.1, { x6.2.1 with Under := x6.2.1.Under ++ [⟨x36.2, x38.2, x41.2, [120]⟩] }, x6.2.2.1, v44_6)) ?_ rfl AJ2 (H4 rfl (C3 (ys := _) 3 rfl rfl C2 B1 rfl)); first | exact ⟨by dsimp only; omega, hsz _⟩ | exact ⟨by dsimp only; omega, hsz 0⟩ | exact ⟨by dsimp only; omega, hsz _ _ _⟩)
 intro h31
 have k31 := G1 h31; try simp only [A4] at k31
 refine R5 ?_
 refine A6 (A0 rfl) ?_ ?_
 ·intro h46
  have k46 := G2 h46; try simp only [A4] at k46
  refine R2 ?_
  refine P4 rfl rfl rfl rfl A9 E2 ?_
  intro v48
  refine R1 ?_
  refine O5 0 rfl fun one_v48 => ?_
  refine M2 2 rfl rfl rfl (A0 rfl) (A0 rfl) (F4 one_v48) rfl Y7 rfl ?_
  refine R6 ?_
  refine AWP.le (C7 [1, 1, 1, 0, 1] rfl) ?_
  refine d7 [(0, _), (2, _), (3, _)] _ (fun (i : Nat) (cd : L5) (l : List A7) (v : Value) => i ≤ 62 ∧ l.length = i ∧ cd.p ≤ c.p + 410 + 2 * i ∧ ∀ x ∈ l, x.Body.length ≤ 40) (fun (i : Nat) (cd : L5) (l : List A7) (v : Value) => [.box b 44 (Q4 code cd), .box b3 28 (AA5 (netU x6.2.1 l) x6.2.2.1 v), .arr x6.2.2.1 3 1 (x6.2.1.Homes.map fun x => [AV.int x]), .arr v 68 4 (l.map A7.cs), .box b2 28 (List.map zeroA (Value.agg #[Value.int IntKind.i64 0, Value.slice none 0 0, Value.int IntKind.i64 0, Value.slice none 0 0]).cells.toList)]) (fun (i : Nat) (cd : L5) (l : List A7) (v : Value) => [(4, AV.int i)]) (fun (i : Nat) (cd : L5) (l : List A7) (v : Value) => 62 - i) (0) (x8.1) ([]) (v48) ?_ (N7 B6 ⟨rfl, rfl, rfl, rfl, trivial⟩) ?_
  ·exact ⟨Nat.zero_le _, rfl, by omega, fun y h => by cases h⟩
  intro i cd l v hinv
  refine R5 ?_
  refine E5 [0] rfl rfl rfl rfl Tryz.call14 rfl (H0 _ _ hcode _ _ qz6 qz6) (A1 (A0 rfl) (A1 D4 A3)) rfl ?_
  intro x52 ok52
  refine R3 ?_
  refine A6 (A0 rfl) ?_ ?_
  ·intro h54
   have k54 := of_decide_eq_true h54; try simp only [A4] at k54
   have hll := hinv.2.1
   refine R7 ?_
   refine A2 rfl (I3 (places := #[(0, 1), (1, 1), (2, 1), (3, 1)]) rfl Q2 Tryz.zeroValue68 (fun w => by kernel_rfl) rfl (B7 D4 (M9 _ _) (B7 (A0 rfl) (M9 _ _) (B7 (W5 (l := [121]) rfl) (u3 _) I0))) rfl) ?_
   refine R1 ?_
   refine N0 (by' := 40) 3 rfl rfl rfl rfl A9 Tryz.type68 rfl rfl rfl rfl rfl rfl (A0 rfl) (A0 rfl) rfl o4 ?_
   intro v62_7
   refine R1 ?_
   refine O5 3 rfl fun one_v62_7 => ?_
   refine M2 1 rfl rfl rfl (A0 rfl) (A0 rfl) (F4 one_v62_7) rfl Y7 rfl ?_
   refine R6 ?_
   refine Q6 i cd l v (i + 1) (x52.1) (l ++ [⟨0, 1, (i : Int), [121]⟩]) (v62_7) ?_ ?_ (Le.trans (C7 [0, 0, 0, 0, 0] rfl) (N7 (by first | rfl | (rw [show (l ++ [(⟨0, 1, (i : Int), [121]⟩ : A7)]).map A7.cs = l.map A7.cs ++ [A7.cs ⟨0, 1, (i : Int), [121]⟩] from List.map_append]; rfl)) ⟨rfl, rfl, rfl, rfl, trivial⟩))
   ·exact ⟨by omega, by rw [H6, hinv.2.1]; rfl, by omega, fun y hy => (List.mem_append.1 hy).elim (hinv.2.2.2 y) fun e => by (rw [List.mem_singleton.1 e]; show (1 : Nat) ≤ 40; decide)⟩
   omega
  intro h54
  have k54 := of_decide_eq_false h54; try simp only [A4] at k54
  have hll := hinv.2.1
  have hsz : ∀ _ : Int, (netU x6.2.1 l).size ≤ 10000 := fun _ => AA0 (Nat.le_trans q1 D1) (show l.length ≤ 70 by omega) hinv.2.2.2
  refine R7 ?_
  (refine F1 [0, 1, 1] ((x52.1, netU x6.2.1 l, x6.2.2.1, v)) ?_ rfl AJ2 (H4 rfl (C3 (ys := _) 4 rfl rfl C2 B1 rfl)); first | exact ⟨by dsimp only; omega, hsz _⟩ | exact ⟨by dsimp only; omega, hsz 0⟩ | exact ⟨by dsimp only; omega, hsz _ _ _⟩)
 intro h46
 have k46 := G1 h46; try simp only [A4] at k46
 have hsz : ∀ _ : Int, x6.2.1.size ≤ 10000 := fun _ => AA0 (Nat.le_trans q1 D1) (Nat.le_trans q2 D1) q3
 refine R7 ?_
 (refine F1 [0, 1, 1] ((x8.1, x6.2.1, x6.2.2.1, x6.2.2.2)) ?_ rfl AJ2 (H4 rfl (C3 (ys := _) 4 rfl rfl C2 B1 rfl)); first | exact ⟨by dsimp only; omega, hsz _⟩ | exact ⟨by dsimp only; omega, hsz 0⟩ | exact ⟨by dsimp only; omega, hsz _ _ _⟩)
theorem Ax8 (b : Nat) (code : List Int) (hcode : d6 code) (c : L5) (hp : c.p ≤ 900000) : F0 Tryz.prog 31 [AV.ptr b 0] [.box b 44 (Q4 code c)] (fun x : L5 × D5 => x.1.p ≤ c.p + 1000 ∧ x.2.size ≤ 10000) (fun x => [.box b 44 (Q4 code x.1)]) (fun x => AV.agg x.2.cs) :=
  p5 (fun x => (x.1, x.2.1)) (fun x => [.arr x.2.2.1 3 1 (x.2.1.Homes.map fun x => [AV.int x]), .arr x.2.2.2 68 4 (x.2.1.Under.map A7.cs)]) (fun x => [.box b 44 (Q4 code x.1)]) (BC8 b code hcode c hp) (fun _ h => h) (fun x _ => W6 (D8 G5 (D8 (I5 List.mem_cons_self F5) (D8 G5 (D8 (I5 (List.mem_cons_of_mem _ List.mem_cons_self) F5) T1))))) (fun x _ => List.perm_append_comm (l₁ := [_])) (fun _ _ => K9 0 rfl rfl M7) (fun x _ => AK6 ⟨rfl, rfl, X5⟩ AQ3)
end Go.Proofs.YtkibefcceekmnaaGreatDoor
namespace Go.M
open Go.AV
theorem AT6 {p : TPoll} (h : PSz p) (i : Nat) {x : A5} (hx : x.Yes.length ≤ 1000000) : PSz { p with Voters := p.Voters.set i x } :=
  ⟨h.net, ⟨by rw [List.length_set]; exact h.voters.1, fun y hy => by
    rcases List.mem_or_eq_of_mem_set hy with hy | hy
    · exact h.voters.2 y hy
    · rw [hy]; exact hx⟩, h.won⟩
theorem psz_won {p : TPoll} (g : GP p) (w : G3) : PSz { p with Won := p.Won ++ [w] } :=
  ⟨(V8 g).net, (V8 g).voters, by
    show (p.Won ++ [w]).length ≤ _
    rw [H6]
    have h9 := g.won
    exact Nat.le_trans (Nat.add_le_add_right h9 1) D1⟩
theorem n9 {p : TPoll} (h : PSz p) {n : D5} (hn : n.size ≤ 10000) : PSz { p with Net := n } := ⟨Nat.le_trans hn D1, h.voters, h.won⟩
theorem gp_three {p : TPoll} (g : GP p) : 3 ≤ p.Voters.length := by
  have h1 := g.len
  have h2 := g.many
  omega
end Go.M
namespace Go.Proofs.YtkibefcceekmnaaGreatDoor
open Go Go.AV Go.M
attribute [local irreducible] OpW OpA OpS AWP D3 P2 F0 OpE RetOk K2 M3 Le Ev I4 Q8 Int.tmod Int.tdiv IntKind.wrap
theorem BC9 (b : Nat) (code : List Int) (hcode : d6 code) (c : L5) (hp : c.p ≤ 100000) : F0 Tryz.prog 11 [AV.ptr b 0] [.box b 44 (Q4 code c)] (fun x : L5 × TPoll × Value × Value => x.1.p ≤ c.p + 3000 ∧ PSz x.2.1) (fun x => [.box b 44 (Q4 code x.1), .arr x.2.2.1 40 5 (x.2.1.Voters.map A5.cs), .arr x.2.2.2 56 2 (x.2.1.Won.map G3.cs)]) (fun x => AV.agg (pollC x.2.1 x.2.2.1 x.2.2.2)) := by
 refine E1 Tryz.func11 rfl Tryz.ntmps11 rfl ?_
 refine R3 ?_
 intro b2
 refine R4 ?_
 refine E5 [1] rfl rfl rfl rfl Tryz.call30 rfl (Ax3 _ _ hcode _ _ D1 qz6) (A1 (A0 rfl) (A1 D4 A3)) rfl ?_
 intro x5 ok5
 obtain ⟨⟨c5, p, v, w⟩, hx5⟩ : ∃ z, x5 = z := ⟨_, rfl⟩
 subst hx5
 have hp5 : c5.p ≤ c.p + 500 := ok5.1
 have hgp : GP p := ok5.2
 have hps := V8 hgp
 have h3 := gp_three hgp
 obtain ⟨y0, hy0⟩ := F8 (show 0 < p.Voters.length by omega)
 obtain ⟨y1, hy1⟩ := F8 (show 1 < p.Voters.length by omega)
 obtain ⟨y2, hy2⟩ := F8 (show 2 < p.Voters.length by omega)
 have hr0 := Q7 (f := A5.cs) hy0
 have hr1 := Q7 (f := A5.cs) hy1
 have hr2 := Q7 (f := A5.cs) hy2
 have hw60 := hgp.won
 dsimp only
 refine R1 ?_
 intro b3
 refine R6 ?_
 refine E5 [1] rfl rfl rfl rfl Tryz.call14 rfl (H0 _ _ hcode _ _ qz6 qz6) (A1 (A0 rfl) (A1 D4 A3)) rfl ?_
 intro x7 ok7
 refine R7 ?_
 refine A6 (A0 rfl) ?_ ?_
 ·intro h8
  have k8 := G2 h8; try simp only [A4] at k8
  have hsz : ∀ z : Int, PSz { p with Voters := p.Voters.set 0 { y0 with Term := z } } := fun z => AT6 hps _ (show y0.Yes.length ≤ 1000000 from hps.voters.2 y0 (D9 hy0))
  refine AWP.le (C7 [1] rfl) ?_
  refine K1 _ [(0, false), (1, false), (2, false), (3, false), (4, true), (5, true)] qz8 qz8 rfl (U0 1) ?_
  refine R4 ?_
  refine N1 rfl rfl rfl (E6 [1] rfl Tryz.call15 rfl (J4 _ _ hcode _ ([(-1), (200), (201)] : List Int) D1 qz6) (A1 (A0 rfl) (A1 (A0 rfl) A3)) rfl) (fun a _ => qz2) ?_
  intro x14 ok14
  refine N1 rfl rfl rfl (P6 (L3 1 rfl B0 B4 (A0 rfl) rfl D4 D1 X8)) (fun a _ => qz2) ?_
  intro _ _
  refine R1 ?_
  refine A2 rfl (J1 1 rfl D2 rfl D0 (A0 rfl) rfl rfl qz4) ?_
  refine T9 1 rfl rfl rfl (A0 rfl) (A0 rfl) (M9 _ _) rfl D0 qz4 rfl ?_
  refine R7 ?_
  (refine F1 [4, 1, 1] ((x14.1, { p with Voters := p.Voters.set 0 { y0 with Term := x14.2 } }, v, w)) ?_ rfl AL5 (H4 rfl (C3 (ys := _) 3 rfl rfl C8 C0 rfl)); first | exact ⟨by dsimp only; omega, hsz _⟩ | exact ⟨by dsimp only; omega, hsz 0⟩ | exact ⟨by dsimp only; omega, n9 hsn ok60.2⟩)
 intro h8
 have k8 := G1 h8; try simp only [A4] at k8
 refine R5 ?_
 refine A6 (A0 rfl) ?_ ?_
 ·intro h17
  have k17 := G2 h17; try simp only [A4] at k17
  have hsz : ∀ z : Int, PSz { p with Voters := p.Voters.set 1 { y1 with For := z } } := fun z => AT6 hps _ (show y1.Yes.length ≤ 1000000 from hps.voters.2 y1 (D9 hy1))
  refine AWP.le (C7 [1] rfl) ?_
  refine K1 _ [(0, false), (1, false), (2, false), (3, false), (4, true), (5, true)] qz8 qz8 rfl (U0 1) ?_
  refine R4 ?_
  refine N1 rfl rfl rfl (E6 [1] rfl Tryz.call15 rfl (J4 _ _ hcode _ ([(-2), (0), (1), (9)] : List Int) D1 qz6) (A1 (A0 rfl) (A1 (A0 rfl) A3)) rfl) (fun a _ => qz2) ?_
  intro x23 ok23
  refine N1 rfl rfl rfl (P6 (L3 1 rfl B0 B4 (A0 rfl) rfl D4 D1 X8)) (fun a _ => qz2) ?_
  intro _ _
  refine R1 ?_
  refine A2 rfl (J1 1 rfl D2 rfl D0 (A0 rfl) rfl rfl qz4) ?_
  refine T9 1 rfl rfl rfl (A0 rfl) (A0 rfl) (M9 _ _) rfl D0 qz4 rfl ?_
  refine R7 ?_
  (refine F1 [4, 1, 1] ((x23.1, { p with Voters := p.Voters.set 1 { y1 with For := x23.2 } }, v, w)) ?_ rfl AL5 (H4 rfl (C3 (ys := _) 3 rfl rfl C8 C0 rfl)); first | exact ⟨by dsimp only; omega, hsz _⟩ | exact ⟨by dsimp only; omega, hsz 0⟩ | exact ⟨by dsimp only; omega, n9 hsn ok60.2⟩)
 intro h17
 have k17 := G1 h17; try simp only [A4] at k17
 refine R5 ?_
 refine A6 (A0 rfl) ?_ ?_
 ·intro h26
  have k26 := G2 h26; try simp only [A4] at k26
  have hsz : ∀ _ : Int, PSz { p with Voters := p.Voters.set 1 { y1 with Yes := [1, 2] } } := fun _ => AT6 hps _ (show [(1 : Int), 2].length ≤ _ by decide)
  refine AWP.le (C7 [1] rfl) ?_
  refine R4 ?_
  refine A2 rfl (L3 2 rfl B0 B4 (A0 rfl) rfl D4 D1 X8) ?_
  refine A2 rfl (J1 2 rfl D2 rfl I6 (A0 rfl) rfl rfl qz4) ?_
  refine T9 2 rfl rfl rfl (A0 rfl) (A0 rfl) (Ar6 _ _) rfl I6 qz4 rfl ?_
  refine R7 ?_
  (refine F1 [1, 1, 1] ((x7.1, { p with Voters := p.Voters.set 1 { y1 with Yes := [1, 2] } }, v, w)) ?_ rfl AL5 (H4 rfl (C3 (ys := _) 4 rfl rfl C8 C0 rfl)); first | exact ⟨by dsimp only; omega, hsz _⟩ | exact ⟨by dsimp only; omega, hsz 0⟩ | exact ⟨by dsimp only; omega, n9 hsn ok60.2⟩)
 intro h26
 have k26 := G1 h26; try simp only [A4] at k26
 refine R5 ?_
 refine A6 (A0 rfl) ?_ ?_
 ·intro h33
  have k33 := G2 h33; try simp only [A4] at k33
  have hsz : ∀ _ : Int, PSz { p with Voters := p.Voters.set 2 { y2 with Leads := !y2.Leads } } := fun _ => AT6 hps _ (show y2.Yes.length ≤ 1000000 from hps.voters.2 y2 (D9 hy2))
  refine AWP.le (C7 [1] rfl) ?_
  refine K1 _ [(0, false), (1, false), (2, false), (3, false), (4, true), (5, true), (6, true), (7, true), (8, true)] qz8 qz8 rfl (U0 1) ?_
  refine R4 ?_
  refine N1 rfl rfl rfl (P6 (L3 2 rfl B0 B4 (A0 rfl) rfl D4 D1 X8)) (fun a _ => qz2) ?_
  intro _ _
  refine N1 rfl rfl rfl (P6 (J1 2 rfl D2 rfl N6 (A0 rfl) rfl rfl qz4)) (fun a _ => qz2) ?_
  intro _ _
  refine N1 rfl rfl rfl (P6 (K0 2 rfl (A0 rfl) rfl X1 qz4 rfl)) (fun a _ => qz2) ?_
  intro _ _
  refine N1 rfl rfl rfl (P6 (w_not rfl (A0 rfl))) (fun a _ => qz2) ?_
  intro _ _
  refine N1 rfl rfl rfl (P6 (L3 2 rfl B0 B4 (A0 rfl) rfl D4 D1 X8)) (fun a _ => qz2) ?_
  intro _ _
  refine R1 ?_
  refine A2 rfl (J1 2 rfl D2 rfl N6 (A0 rfl) rfl rfl qz4) ?_
  refine T9 2 rfl rfl rfl (A0 rfl) (A0 rfl) (AJ9 _) rfl N6 qz4 rfl ?_
  refine R7 ?_
  (refine F1 [1, 1, 1] ((x7.1, { p with Voters := p.Voters.set 2 { y2 with Leads := !y2.Leads } }, v, w)) ?_ rfl AL5 (H4 rfl (C3 (ys := _) 4 rfl rfl C8 C0 rfl)); first | exact ⟨by dsimp only; omega, hsz _⟩ | exact ⟨by dsimp only; omega, hsz 0⟩ | exact ⟨by dsimp only; omega, n9 hsn ok60.2⟩)
 intro h33
 have k33 := G1 h33; try simp only [A4] at k33
 refine R5 ?_
 refine A6 (A0 rfl) ?_ ?_
 ·intro h45
  have k45 := G2 h45; try simp only [A4] at k45
  have hsz : ∀ z : G3, PSz { p with Won := p.Won ++ [z] } := fun z => psz_won hgp z
  refine K7 [] 9 (.pure 0 (.pure 2 (.pure 4 (.e2 1 (.e1 3 (.e1 5 (.pure 6 (.pure 7 (.e1 8 .nil))))) 3 (.e2 1 (.e1 5 (.pure 6 (.pure 7 (.e1 8 .nil)))) 5 (.pure 6 (.pure 7 (.e1 1 (.e1 8 .nil))))))))) qz8 qz8 rfl AE8 ?_
  refine R3 ?_
  refine Y8 ?_ ?_
  ·refine C4 rfl rfl rfl (P6 (d8 1 rfl (A0 rfl) rfl Tryz.isAgg29 rfl)) (fun a _ => qz2) ?_
   intro _ _
   refine R1 ?_
   refine C4 rfl rfl rfl (E6 [0] rfl Tryz.call14 rfl (H0 _ _ hcode _ _ qz6 qz6) (A1 (A0 rfl) (A1 D4 A3)) rfl) (fun a _ => qz2) ?_
   intro x50 ok50
   refine R1 ?_
   refine C4 rfl rfl rfl (E6 [4] rfl Tryz.call14 rfl (H0 _ _ hcode _ _ qz6 qz6) (A1 (A0 rfl) (A1 D4 A3)) rfl) (fun a _ => qz2) ?_
   intro x52 ok52
   refine R3 ?_
   refine C4 rfl rfl rfl (I9 (by' := 16) 2 rfl C5 Tryz.type56 rfl rfl rfl rfl rfl rfl (A0 rfl) (A0 rfl) rfl o4) (fun a _ => qz2) ?_
   intro v55_1 _
   refine R2 ?_
   refine O5 2 rfl fun one_v55_1 => ?_
   refine M2 0 rfl rfl rfl (A0 rfl) (A0 rfl) (F4 one_v55_1) rfl Y6 rfl ?_
   refine R7 ?_
   (refine F1 [4, 1, 1] ((x52.1, { p with Won := p.Won ++ [⟨x50.2, x52.2⟩] }, v, v55_1)) ?_ rfl AL5 (H4 rfl (C3 (ys := _) 3 rfl rfl C8 C0 rfl)); first | exact ⟨by dsimp only; omega, hsz _⟩ | exact ⟨by dsimp only; omega, hsz 0⟩ | exact ⟨by dsimp only; omega, n9 hsn ok60.2⟩)
  refine C4 rfl rfl rfl (E6 [0] rfl Tryz.call14 rfl (H0 _ _ hcode _ _ qz6 qz6) (A1 (A0 rfl) (A1 D4 A3)) rfl) (fun a _ => qz2) ?_
  intro x50 ok50
  refine Y8 ?_ ?_
  ·refine C4 rfl rfl rfl (P6 (d8 0 rfl (A0 rfl) rfl Tryz.isAgg29 rfl)) (fun a _ => qz2) ?_
   intro _ _
   refine R1 ?_
   refine C4 rfl rfl rfl (E6 [4] rfl Tryz.call14 rfl (H0 _ _ hcode _ _ qz6 qz6) (A1 (A0 rfl) (A1 D4 A3)) rfl) (fun a _ => qz2) ?_
   intro x52 ok52
   refine R3 ?_
   refine C4 rfl rfl rfl (I9 (by' := 16) 2 rfl C5 Tryz.type56 rfl rfl rfl rfl rfl rfl (A0 rfl) (A0 rfl) rfl o4) (fun a _ => qz2) ?_
   intro v55_2 _
   refine R2 ?_
   refine O5 2 rfl fun one_v55_2 => ?_
   refine M2 0 rfl rfl rfl (A0 rfl) (A0 rfl) (F4 one_v55_2) rfl Y6 rfl ?_
   refine R7 ?_
   (refine F1 [4, 1, 1] ((x52.1, { p with Won := p.Won ++ [⟨x50.2, x52.2⟩] }, v, v55_2)) ?_ rfl AL5 (H4 rfl (C3 (ys := _) 3 rfl rfl C8 C0 rfl)); first | exact ⟨by dsimp only; omega, hsz _⟩ | exact ⟨by dsimp only; omega, hsz 0⟩ | exact ⟨by dsimp only; omega, n9 hsn ok60.2⟩)
  refine C4 rfl rfl rfl (E6 [4] rfl Tryz.call14 rfl (H0 _ _ hcode _ _ qz6 qz6) (A1 (A0 rfl) (A1 D4 A3)) rfl) (fun a _ => qz2) ?_
  intro x52 ok52
  refine R3 ?_
  refine C4 rfl rfl rfl (P6 (d8 0 rfl (A0 rfl) rfl Tryz.isAgg29 rfl)) (fun a _ => qz2) ?_
  intro _ _
  refine R1 ?_
  refine C4 rfl rfl rfl (I9 (by' := 16) 2 rfl C5 Tryz.type56 rfl rfl rfl rfl rfl rfl (A0 rfl) (A0 rfl) rfl o4) (fun a _ => qz2) ?_
  intro v55_3 _
  refine R2 ?_
  refine O5 2 rfl fun one_v55_3 => ?_
  refine M2 0 rfl rfl rfl (A0 rfl) (A0 rfl) (F4 one_v55_3) rfl Y6 rfl ?_
  refine R7 ?_
  (refine F1 [4, 1, 1] ((x52.1, { p with Won := p.Won ++ [⟨x50.2, x52.2⟩] }, v, v55_3)) ?_ rfl AL5 (H4 rfl (C3 (ys := _) 3 rfl rfl C8 C0 rfl)); first | exact ⟨by dsimp only; omega, hsz _⟩ | exact ⟨by dsimp only; omega, hsz 0⟩ | exact ⟨by dsimp only; omega, n9 hsn ok60.2⟩)
 intro h45
 have k45 := G1 h45; try simp only [A4] at k45
 refine R5 ?_
 refine A6 (A0 rfl) ?_ ?_
 ·intro h57
  have k57 := G2 h57; try simp only [A4] at k57
  have hsn := hps
  refine R2 ?_
  refine E5 [0] rfl rfl rfl rfl Tryz.call31 rfl (Ax8 _ _ hcode _ qz6) (A1 (A0 rfl) A3) rfl ?_
  intro x60 ok60
  refine R1 ?_
  refine S1 1 rfl rfl rfl (A0 rfl) (A0 rfl) (F2 _) rfl B1 rfl ?_
  refine R7 ?_
  (refine F1 [0, 1, 1] ((x60.1, { p with Net := x60.2 }, v, w)) ?_ rfl AL5 (H4 rfl (C3 (ys := _) 4 rfl rfl C8 C0 rfl)); first | exact ⟨by dsimp only; omega, hsz _⟩ | exact ⟨by dsimp only; omega, hsz 0⟩ | exact ⟨by dsimp only; omega, n9 hsn ok60.2⟩)
 intro h57
 have k57 := G1 h57; try simp only [A4] at k57
 have hsz : ∀ _ : Int, PSz p := fun _ => hps
 refine R7 ?_
 (refine F1 [0, 1, 1] ((x7.1, p, v, w)) ?_ rfl AL5 (H4 rfl (C3 (ys := _) 4 rfl rfl C8 C0 rfl)); first | exact ⟨by dsimp only; omega, hsz _⟩ | exact ⟨by dsimp only; omega, hsz 0⟩ | exact ⟨by dsimp only; omega, n9 hsn ok60.2⟩)
theorem Ax9 (b : Nat) (code : List Int) (hcode : d6 code) (c : L5) (hp : c.p ≤ 100000) : F0 Tryz.prog 11 [AV.ptr b 0] [.box b 44 (Q4 code c)] (fun x : L5 × TPoll => x.1.p ≤ c.p + 3000 ∧ PSz x.2) (fun x => [.box b 44 (Q4 code x.1)]) (fun x => AV.agg x.2.cs) :=
  p5 (fun x => (x.1, x.2.1)) (fun x => [.arr x.2.2.1 40 5 (x.2.1.Voters.map A5.cs), .arr x.2.2.2 56 2 (x.2.1.Won.map G3.cs)]) (fun x => [.box b 44 (Q4 code x.1)]) (BC9 b code hcode c hp) (fun _ h => h) (fun x _ => n8 List.mem_cons_self (List.mem_cons_of_mem _ List.mem_cons_self)) (fun x _ => List.perm_append_comm (l₁ := [_])) (fun _ _ => K9 0 rfl rfl M7) (fun x _ => AK6 ⟨rfl, rfl, X5⟩ AQ3)
theorem AU5 (code : List Int) (hcode : d6 code) : F0 Tryz.prog 5 [AL4 code] [] (fun x : (TPoll × List F7) × Value => PSz x.1.1 ∧ x.1.2.length ≤ 300) (fun x => [.arr x.2 51 3 (x.1.2.map F7.cs)]) (fun x => AV.tup [AV.agg x.1.1.cs, AV.is x.2]) := by
 refine E1 Tryz.func5 rfl Tryz.ntmps5 rfl ?_
 refine R3 ?_
 intro b2
 refine A2 rfl (P1 rfl L6) ?_
 refine R6 ?_
 intro b9
 refine R5 ?_
 refine E5 [0] rfl rfl rfl rfl Tryz.call11 rfl (Ax9 _ _ hcode ⟨0, 0⟩ D1) (A1 (A0 rfl) A3) rfl ?_
 intro x11 ok11
 have hp11 : x11.1.p ≤ 3000 := (by have h9 := ok11.1; simpa using h9)
 refine R1 ?_
 intro b5
 refine R5 ?_
 refine E5 [1] rfl rfl rfl rfl Tryz.call12 rfl (Aa9 _ _ hcode _ _ D1 qz6) (A1 (A0 rfl) (A1 D4 A3)) rfl ?_
 intro x13 ok13
 have hp13 := ok13.1
 have hl13 := ok13.2
 refine R6 ?_
 refine E5 [0] rfl rfl rfl rfl Tryz.call13 rfl (v7 _ _ hcode _ _ qz6 qz6) (A1 (A0 rfl) (A1 D4 A3)) rfl ?_
 intro x15 ok15
 refine R1 ?_
 refine A6 (A0 rfl) ?_ ?_
 ·intro h15
  refine R2 ?_
  refine E5 [0] rfl rfl rfl rfl Tryz.call14 rfl (H0 _ _ hcode _ _ qz6 qz6) (A1 (A0 rfl) (A1 D4 A3)) rfl ?_
  intro x17 ok17
  refine R1 ?_
  obtain ⟨m0, hm0⟩ : ∃ n : Nat, 200 + x17.2 = (n : Int) := ⟨(200 + x17.2).toNat, by omega⟩
  rw [hm0]
  refine sq_make (by' := 24) rfl rfl rfl rfl N5 Tryz.type51 rfl rfl rfl rfl rfl rfl (A0 rfl) (A0 rfl) qz3 qz3 ?_
  intro v19
  refine R6 ?_
  refine E5 [1] rfl rfl rfl rfl Tryz.call13 rfl (v7 _ _ hcode _ _ qz6 qz6) (A1 (A0 rfl) (A1 D4 A3)) rfl ?_
  intro x21 ok21
  refine R1 ?_
  refine A6 (A0 rfl) ?_ ?_
  ·intro h21
   refine R4 ?_
   refine E5 [0] rfl rfl rfl rfl Tryz.call15 rfl (J4 _ _ hcode _ ([(0), (7), (1)] : List Int) D1 qz6) (A1 (A0 rfl) (A1 (A0 rfl) A3)) rfl ?_
   intro x25 ok25
   refine R2 ?_
   refine E5 [0] rfl rfl rfl rfl Tryz.call15 rfl (J4 _ _ hcode _ ([(-1), (9)] : List Int) D1 qz6) (A1 (A0 rfl) (A1 (A0 rfl) A3)) rfl ?_
   intro x28 ok28
   refine R2 ?_
   refine N0 (by' := 24) 1 rfl rfl rfl rfl N5 Tryz.type51 rfl rfl rfl rfl rfl rfl (A0 rfl) (A0 rfl) rfl qz66 ?_
   intro v31_1
   refine R10 ?_
   (refine F1 [1] (((x11.2, List.replicate m0 ⟨0, 0, 0⟩ ++ [⟨x25.2, x28.2, 0⟩]), v31_1)) ?_ rfl qz26 (L7 rfl D1 (B2 (C3 (ys := _) 4 rfl rfl C8 C0 rfl) (B2 (A8 rfl B6) E3))); first | exact ⟨ok11.2, by dsimp only; omega⟩ | exact ⟨ok11.2, by dsimp only; rw [H6]; exact Nat.le_trans (Nat.add_le_add_right hl13 1) D1⟩ | exact ⟨ok11.2, by dsimp only; simp only [H6, List.length_replicate, J9, Z3]; omega⟩)
  intro h21
  refine R9 ?_
  (refine F1 [1] (((x11.2, List.replicate m0 ⟨0, 0, 0⟩), v19)) ?_ rfl qz26 (L7 rfl D1 (B2 (C3 (ys := _) 4 rfl rfl C8 C0 rfl) (B2 (A8 rfl B6) E3))); first | exact ⟨ok11.2, by dsimp only; omega⟩ | exact ⟨ok11.2, by dsimp only; rw [H6]; exact Nat.le_trans (Nat.add_le_add_right hl13 1) D1⟩ | exact ⟨ok11.2, by dsimp only; simp only [H6, List.length_replicate, J9, Z3]; omega⟩)
 intro h15
 refine R5 ?_
 refine E5 [0] rfl rfl rfl rfl Tryz.call13 rfl (v7 _ _ hcode _ _ qz6 qz6) (A1 (A0 rfl) (A1 D4 A3)) rfl ?_
 intro x21 ok21
 refine R1 ?_
 refine A6 (A0 rfl) ?_ ?_
 ·intro h21
  refine R4 ?_
  refine E5 [0] rfl rfl rfl rfl Tryz.call15 rfl (J4 _ _ hcode _ ([(0), (7), (1)] : List Int) D1 qz6) (A1 (A0 rfl) (A1 (A0 rfl) A3)) rfl ?_
  intro x25 ok25
  refine R2 ?_
  refine E5 [0] rfl rfl rfl rfl Tryz.call15 rfl (J4 _ _ hcode _ ([(-1), (9)] : List Int) D1 qz6) (A1 (A0 rfl) (A1 (A0 rfl) A3)) rfl ?_
  intro x28 ok28
  refine R2 ?_
  refine N0 (by' := 24) 1 rfl rfl rfl rfl N5 Tryz.type51 rfl rfl rfl rfl rfl rfl (A0 rfl) (A0 rfl) rfl qz66 ?_
  intro v31_2
  refine R10 ?_
  (refine F1 [1] (((x11.2, x13.2.1 ++ [⟨x25.2, x28.2, 0⟩]), v31_2)) ?_ rfl qz26 (L7 rfl D1 (B2 (C3 (ys := _) 3 rfl rfl C8 C0 rfl) (B2 (A8 rfl B6) E3))); first | exact ⟨ok11.2, by dsimp only; omega⟩ | exact ⟨ok11.2, by dsimp only; rw [H6]; exact Nat.le_trans (Nat.add_le_add_right hl13 1) D1⟩ | exact ⟨ok11.2, by dsimp only; simp only [H6, List.length_replicate, J9, Z3]; omega⟩)
 intro h21
 refine R9 ?_
 (refine F1 [1] (((x11.2, x13.2.1), x13.2.2)) ?_ rfl qz26 (L7 rfl D1 (B2 (C3 (ys := _) 3 rfl rfl C8 C0 rfl) (B2 (A8 rfl B6) E3))); first | exact ⟨ok11.2, by dsimp only; omega⟩ | exact ⟨ok11.2, by dsimp only; rw [H6]; exact Nat.le_trans (Nat.add_le_add_right hl13 1) D1⟩ | exact ⟨ok11.2, by dsimp only; simp only [H6, List.length_replicate, J9, Z3]; omega⟩)
theorem AX6 (code : List Int) (hcode : d6 code) : F0 Tryz.prog 5 [AL4 code] [] (fun x : TPoll × List F7 => PSz x.1 ∧ x.2.length ≤ 300) (fun x => []) (fun x => AV.tup [AV.agg x.1.cs, AV.list 3 (x.2.map F7.cs)]) :=
  p5 (fun x => x.1) (fun x => [.arr x.2 51 3 (x.1.2.map F7.cs)]) (fun x => []) (AU5 code hcode) (fun _ h => h) (fun x _ => AK2 (D8 G5 (D8 (I5 List.mem_cons_self F5) T1))) (fun x _ => List.Perm.refl _) (fun _ _ => M7) (fun x _ => AQ3)
theorem AO3 (l : List Int) : D3 Tryz.prog 29 [ints l, ints l] (AV.bool true) := by
 refine C6 Tryz.func29 rfl Tryz.ntmps29 rfl ?_
 refine n3 (t := 0) rfl fun hl => ?_
 try simp only [A4] at hl
 refine R13 ?_
 refine A6 (A0 rfl) ?_ ?_
 ·intro h10
  have k10 := AH2 h10; try simp only [A4] at k10
  exfalso; simp at h10
 intro h10
 have k10 := l0 h10; try simp only [A4] at k10
 refine R7 ?_
 refine J0 [(0, _), (1, _)] _ (fun (i : Nat) => i ≤ l.length) (fun (i : Nat) => []) (fun (i : Nat) => [(5, AV.int i)]) (fun (i : Nat) => l.length - i) (0) ?_ (K6 ⟨rfl, rfl, rfl, trivial⟩) ?_
 ·exact Nat.zero_le _
 intro i hinv
 refine R8 ?_
 refine A6 (A0 rfl) ?_ ?_
 ·intro h14
  have k14 := of_decide_eq_true h14; try simp only [A4] at k14
  have hlt : i < l.length := (by simpa using h14)
  obtain ⟨x, hx⟩ := F8 hlt
  refine R7 ?_
  refine B8 rfl rfl (H3 rfl B5 D0 (A0 rfl) (A0 rfl) hx qz3) ?_
  refine R3 ?_
  refine B8 rfl rfl (H3 rfl B5 D0 (A0 rfl) (A0 rfl) hx qz3) ?_
  refine R3 ?_
  refine A6 (A0 rfl) ?_ ?_
  ·intro h25
   have k25 := AH2 h25; try simp only [A4] at k25
   exfalso; simp at h25
  intro h25
  have k25 := l0 h25; try simp only [A4] at k25
  refine R6 ?_
  refine L0 i (i + 1) ?_ ?_ (K6 ⟨rfl, rfl, rfl, trivial⟩)
  ·exact qz6
  omega
 intro h14
 have k14 := of_decide_eq_false h14; try simp only [A4] at k14
 refine R6 ?_
 exact H5 rfl (A8 rfl B6)
theorem Aj1 (l : List A7) : D3 Tryz.prog 60 [AV.list 4 (l.map A7.cs), AV.list 4 (l.map A7.cs)] (AV.bool true) := by
 refine C6 Tryz.func60 rfl Tryz.ntmps60 rfl ?_
 refine n3 (t := 0) rfl fun hl => ?_
 try simp only [A4] at hl
 refine R13 ?_
 refine A6 (A0 rfl) ?_ ?_
 ·intro h10
  have k10 := AH2 h10; try simp only [A4] at k10
  exfalso; simp at h10
 intro h10
 have k10 := l0 h10; try simp only [A4] at k10
 refine R7 ?_
 refine J0 [(0, _), (1, _)] _ (fun (i : Nat) => i ≤ l.length) (fun (i : Nat) => []) (fun (i : Nat) => [(5, AV.int i)]) (fun (i : Nat) => l.length - i) (0) ?_ (K6 ⟨rfl, rfl, rfl, trivial⟩) ?_
 ·exact Nat.zero_le _
 intro i hinv
 refine R8 ?_
 refine A6 (A0 rfl) ?_ ?_
 ·intro h14
  have k14 := of_decide_eq_true h14; try simp only [A4] at k14
  have hlt : i < l.length := (by simpa using h14)
  obtain ⟨x, hx⟩ := F8 hlt
  refine R7 ?_
  refine B8 rfl rfl (H3 rfl A9 E2 (A0 rfl) (A0 rfl) hx qz3) ?_
  refine R3 ?_
  refine B8 rfl rfl (H3 rfl A9 E2 (A0 rfl) (A0 rfl) hx qz3) ?_
  refine R1 ?_
  refine B8 rfl rfl (w_aneq rfl Q2 qz8 qz8 (A0 rfl) (A0 rfl) (y7 qz8 K5 rfl rfl (AK1 J8) (y7 qz8 K5 rfl rfl (AK1 J8) (y7 qz8 K5 rfl rfl (AK1 J8) (y7 qz8 Tryz.isAgg9 rfl rfl (eqf_str I2) Ar9))))) ?_
  refine R1 ?_
  refine A6 (A0 rfl) ?_ ?_
  ·intro h25
   exfalso; simp at h25
  intro h25
  refine R6 ?_
  refine L0 i (i + 1) ?_ ?_ (K6 ⟨rfl, rfl, rfl, trivial⟩)
  ·exact qz6
  omega
 intro h14
 have k14 := of_decide_eq_false h14; try simp only [A4] at k14
 refine R6 ?_
 exact H5 rfl (A8 rfl B6)
theorem BD0 (n : D5) : D3 Tryz.prog 28 [AV.agg n.cs, AV.agg n.cs] (AV.bool true) := by
  refine C6 Tryz.func28 rfl Tryz.ntmps28 rfl ?_
  refine R3 ?_
  intro b2
  refine R1 ?_
  intro b3
  refine R21 ?_
  refine U5 rfl (fun hc => B3 rfl Tryz.call29 rfl (AO3 n.Homes) (A1 (B9 rfl hc) (A1 (B9 rfl hc) A3))) ?_
  refine R6 ?_
  refine U5 rfl (fun hc => B3 rfl Tryz.call60 rfl (Aj1 n.Under) (A1 (B9 rfl hc) (A1 (B9 rfl hc) A3))) ?_
  refine R4 ?_
  exact H5 rfl (A8 rfl qz82)
theorem Ay0 (p : TPoll) (hs : PSz p) : D3 Tryz.prog 10 [AV.agg p.cs, AV.agg p.cs] (AV.bool true) := by
 have hv1 := hs.voters.1
 have hw1 := hs.won
 refine C6 Tryz.func10 rfl Tryz.ntmps10 rfl ?_
 refine R3 ?_
 intro b2
 refine R1 ?_
 intro b3
 refine R6 ?_
 refine A2 rfl (O4 _ 1 rfl (A0 rfl) rfl C2 B1 rfl rfl) ?_
 refine R1 ?_
 refine A2 rfl (O4 _ 0 rfl (A0 rfl) rfl C2 B1 rfl rfl) ?_
 refine A2 rfl (B3 rfl Tryz.call28 rfl (BD0 p.Net) (A1 (A0 rfl) (A1 (A0 rfl) A3))) ?_
 refine R20 ?_
 refine A6 (A0 rfl) ?_ ?_
 ·intro h32
  exfalso; simp at h32
 intro h32
 refine R7 ?_
 refine AWP.le (C7 [1, 0] rfl) ?_
 refine J0 [(2, _), (3, _)] _ (fun (i : Nat) => i ≤ p.Voters.length) (fun (i : Nat) => [.box b2 31 p.cs, .box b3 31 p.cs]) (fun (i : Nat) => [(5, AV.int i)]) (fun (i : Nat) => p.Voters.length - i) (0) ?_ (N7 B6 ⟨rfl, rfl, rfl, trivial⟩) ?_
 ·exact Nat.zero_le _
 intro i hinv
 refine R9 ?_
 refine A6 (A0 rfl) ?_ ?_
 ·intro h37
  have k37 := of_decide_eq_true h37; try simp only [A4] at k37
  have hlt : i < p.Voters.length := (by simpa using h37)
  obtain ⟨x, hx⟩ := F8 hlt
  refine R4 ?_
  refine K7 _ 13 (.pure 0 (.pure 1 (.pure 2 (.pure 3 (.pure 4 (.pure 5 (.pure 6 (.pure 7 (.pure 8 (.pure 9 (.e2 10 (.e1 11 (.e1 12 .nil)) 11 (.e1 10 (.e1 12 .nil))))))))))))) qz8 qz8 rfl Q0 ?_
  refine R3 ?_
  refine M6 rfl rfl rfl (fun ext => H3 rfl B0 B4 (A0 rfl) (A0 rfl) hx qz3) ?_
  refine R4 ?_
  refine M6 rfl rfl rfl (fun ext => H3 rfl B0 B4 (A0 rfl) (A0 rfl) hx qz3) ?_
  refine R1 ?_
  refine Y8 ?_ ?_
  ·refine C4 rfl rfl rfl (G4 rfl Tryz.zeroValue40 rfl) (fun a _ => qz2) ?_
   intro b6 _
   refine R1 ?_
   refine C4 rfl rfl rfl (G4 rfl Tryz.zeroValue40 rfl) (fun a _ => qz2) ?_
   intro b7 _
   refine R1 ?_
   refine Y4 rfl rfl rfl (N4 2 rfl rfl (A0 rfl) (A0 rfl) (F2 _) rfl B4 rfl) (fun a _ => qz2) ?_
   intro _ _
   refine R9 ?_
   refine A2 rfl (AY4 rfl T5 (A0 rfl) (A0 rfl)) ?_
   refine R19 ?_
   refine J6 rfl (fun hc => AY4 rfl T5 (B9 rfl hc) (B9 rfl hc)) ?_
   refine R6 ?_
   refine J6 rfl (fun hc => B3 rfl Tryz.call29 rfl (AO3 x.Yes) (A1 (B9 rfl hc) (A1 (B9 rfl hc) A3))) ?_
   refine R3 ?_
   refine A6 (A0 rfl) ?_ ?_
   ·intro h83
    exfalso; simp at h83
   intro h83
   refine R6 ?_
   refine L0 i (i + 1) ?_ ?_ (Le.trans (C7 [2, 2, 0, 0] rfl) (E8 2 B6 ⟨rfl, rfl, rfl, trivial⟩))
   ·exact qz6
   omega
  refine C4 rfl rfl rfl (G4 rfl Tryz.zeroValue40 rfl) (fun a _ => qz2) ?_
  intro b7 _
  refine R1 ?_
  refine C4 rfl rfl rfl (G4 rfl Tryz.zeroValue40 rfl) (fun a _ => qz2) ?_
  intro b6 _
  refine R1 ?_
  refine Y4 rfl rfl rfl (N4 3 rfl rfl (A0 rfl) (A0 rfl) (F2 _) rfl B4 rfl) (fun a _ => qz2) ?_
  intro _ _
  refine R9 ?_
  refine A2 rfl (AY4 rfl T5 (A0 rfl) (A0 rfl)) ?_
  refine R19 ?_
  refine J6 rfl (fun hc => AY4 rfl T5 (B9 rfl hc) (B9 rfl hc)) ?_
  refine R6 ?_
  refine J6 rfl (fun hc => B3 rfl Tryz.call29 rfl (AO3 x.Yes) (A1 (B9 rfl hc) (A1 (B9 rfl hc) A3))) ?_
  refine R3 ?_
  refine A6 (A0 rfl) ?_ ?_
  ·intro h83
   exfalso; simp at h83
  intro h83
  refine R6 ?_
  refine L0 i (i + 1) ?_ ?_ (Le.trans (C7 [2, 2, 0, 0] rfl) (E8 2 B6 ⟨rfl, rfl, rfl, trivial⟩))
  ·exact qz6
  omega
 intro h37
 have k37 := of_decide_eq_false h37; try simp only [A4] at k37
 refine R7 ?_
 refine AWP.le (C7 [0, 0] rfl) ?_
 refine J0 [(2, _), (3, _)] _ (fun (j : Nat) => j ≤ p.Won.length) (fun (j : Nat) => [.box b2 31 p.cs, .box b3 31 p.cs]) (fun (j : Nat) => [(8, AV.int j)]) (fun (j : Nat) => p.Won.length - j) (0) ?_ (N7 B6 ⟨rfl, rfl, rfl, trivial⟩) ?_
 ·exact Nat.zero_le _
 intro j hinv
 refine R9 ?_
 refine A6 (A0 rfl) ?_ ?_
 ·intro h88
  have k88 := of_decide_eq_true h88; try simp only [A4] at k88
  have hlt : j < p.Won.length := (by simpa using h88)
  obtain ⟨x, hx⟩ := F8 hlt
  refine R8 ?_
  refine B8 rfl rfl (H3 rfl C5 J5 (A0 rfl) (A0 rfl) hx qz3) ?_
  refine R4 ?_
  refine B8 rfl rfl (H3 rfl C5 J5 (A0 rfl) (A0 rfl) hx qz3) ?_
  refine R1 ?_
  refine B8 rfl rfl (w_aneq rfl Tryz.underlying56 qz8 qz8 (A0 rfl) (A0 rfl) (y7 qz8 K5 rfl rfl (AK1 J8) (y7 qz8 K5 rfl rfl (AK1 J8) Ar9))) ?_
  refine R1 ?_
  refine A6 (A0 rfl) ?_ ?_
  ·intro h101
   exfalso; simp at h101
  intro h101
  refine R6 ?_
  refine L0 j (j + 1) ?_ ?_ (Le.trans (C7 [0, 0] rfl) (N7 B6 ⟨rfl, rfl, rfl, trivial⟩))
  ·exact qz6
  omega
 intro h88
 have k88 := of_decide_eq_false h88; try simp only [A4] at k88
 refine R6 ?_
 exact H5 rfl (A8 rfl B6)
end Go.Proofs.YtkibefcceekmnaaGreatDoor
namespace Go.Proofs.YtkibefcceekmnaaGreatDoor
open Go Go.AV Go.M
open Go.ChangeShapes Go.WideShapes Go.ChangeAt Go.RowKit
theorem star : "*" ++ "errors.errorString" = "*errors.errorString" := by decide
theorem errRow (u : TypeId) (h : Tryz.prog.typeName? 3 u = some "*errors.errorString") : u = 161 :=
  typeName_ptr_named (nm := "errors.errorString") (by rw [star]; kernel_rfl) qz8 D1 u (by rw [star]; exact h)
theorem readW_of {W : World} (hL : laidMet Tryz.prog Rows.fnVotedRow.laid W) (hsh : W.ShapedOpen Tryz.prog) : readW W := by
  refine ⟨BB5 (laidMet.tail (laidMet.tail hL)), ?_, ?_⟩
  · have h5 := laidMet.tail (laidMet.tail (laidMet.tail (laidMet.tail hL)))
    obtain ⟨a, s, h, _⟩ := laid_sentinel (n := "strconv.ErrSyntax") (g := 1) (ti := 115) h5 qz8 qz8 Tryz.underlying115 errRow Tryz.underlying161 Tryz.underlying163 rfl rfl I2 qz8 qz8
    exact ⟨_, _, h⟩
  · have h4 := laidMet.tail (laidMet.tail (laidMet.tail hL))
    obtain ⟨a, s, h, _⟩ := laid_sentinel (n := "strconv.ErrRange") (g := 2) (ti := 115) h4 qz8 qz8 Tryz.underlying115 errRow Tryz.underlying161 Tryz.underlying163 rfl rfl I2 qz8 qz8
    exact ⟨_, _, h⟩
end Go.Proofs.YtkibefcceekmnaaGreatDoor
namespace Go.M
open Go.AV
theorem cut_one {α : Type} {l : List α} {i : Nat} {a : α} (h : l[i]? = some a) : (l.take ((i : Int) + 1).toNat).drop (i : Int).toNat = [a] := by
  have hi := (List.getElem?_eq_some_iff.1 h).1
  rw [show ((i : Int) + 1).toNat = i + 1 by omega, Int.toNat_natCast, List.take_add_one, List.drop_append, h, List.drop_of_length_le (by rw [G8]; omega), G8, Nat.min_eq_left (Nat.le_of_lt hi), Nat.sub_self]
  rfl
theorem step_le {q : TPoll} (g : GP q) (a : F7) : GP (H9 q a) ∧ LeP q (H9 q a) := AF6 (ta := taI) (ty := tyI) AG4 g a
end Go.M
namespace Go.Proofs.YtkibefcceekmnaaGreatDoor
open Go Go.AV Go.M
open Go.ChangeShapes Go.WideShapes Go.ChangeAt Go.RowKit
section
attribute [local irreducible] OpW OpA OpS AWP D3 P2 F0 OpE RetOk K2 M3 Le Ev I4 Q8 Int.tmod Int.tdiv IntKind.wrap bandI
theorem Ay1 (code : List Int) : D3 Tryz.prog 4 [AL4 code] (AV.bool (decide (65536 < (code.length : Int)))) := by
 refine C6 Tryz.func4 rfl Tryz.ntmps4 rfl ?_
 refine n3 (t := 0) rfl fun hl0 => ?_
 try simp only [A4] at hl0
 refine R12 ?_
 exact H5 rfl (A8 rfl (by (refine congrArg AV.bool ?_; simp only [A4])))
theorem BD1 {q : TPoll} {a : F7} {l : List F7} (g : GP q) (h : l = [a]) : D3 Tryz.prog 8 [AV.wt readW (AV.agg q.cs), AV.list 3 (l.map F7.cs)] (AV.tup [AV.agg (H9 q a).cs, AV.bool true]) := by
  subst h
  exact Ai9 q [a] g (show 1 ≤ 200 by decide)
theorem BD2 {q : TPoll} {a : F7} {l : List F7} (g : GP q) (h : l = [a]) : D3 Tryz.prog 9 [AV.agg q.cs, AV.list 3 (l.map F7.cs)] (AV.tup [AV.agg (H9 q a).cs, AV.bool true]) := by
  subst h
  exact Ae6 q [a] g (show 1 ≤ 200 by decide)
theorem Ao8 (code : List Int) (hc : ∀ x ∈ code, (Lit.int .u8 x).wf = true) : D3 Tryz.prog 3 [AV.wt readW (AL4 code)] (AV.bool true) := by
 have hb0 : d6 code := byteL_of hc
 refine C6 Tryz.func3 rfl Tryz.ntmps3 rfl ?_
 refine AWP.le (AK5 (t := 0) rfl) ?_
 refine R8 ?_
 refine A2 rfl (B3 rfl Tryz.call4 rfl (Ay1 code) (A1 (A0 rfl) A3)) ?_
 refine R1 ?_
 refine A6 (A0 rfl) ?_ ?_
 ·intro h14
  refine R5 ?_
  exact H5 rfl (A8 rfl qz67)
 intro h14
 refine R4 ?_
 refine E5 [] rfl rfl rfl rfl Tryz.call5 rfl (AX6 code hb0) (A1 (A0 rfl) A3) rfl ?_
 intro x17 ok17
 obtain ⟨⟨p, acts⟩, hx17⟩ : ∃ z, x17 = z := ⟨_, rfl⟩
 subst hx17
 have hps : PSz p := ok17.1
 have hal : acts.length ≤ 300 := ok17.2
 dsimp only
 refine R4 ?_
 intro b3
 refine R7 ?_
 refine A2 rfl (B3 rfl Tryz.call6 rfl (Ae5 p hps) (A1 (A0 rfl) A3)) ?_
 refine R2 ?_
 refine A6 (A0 rfl) ?_ ?_
 ·intro h22
  refine R3 ?_
  refine A2 rfl (B3 rfl Tryz.call7 rfl (p9 p hps) (A1 (A0 rfl) A3)) ?_
  refine R4 ?_
  exact H5 rfl (A8 rfl qz67)
 intro h22
 have hg0 : GP p := U1.1 (by simpa using h22)
 refine R7 ?_
 refine AWP.le (C7 [0, 0] rfl) ?_
 refine S3 [(3, _), (4, _)] _ (fun (i : Nat) (q : TPoll) => i ≤ acts.length ∧ GP q) (fun (i : Nat) (q : TPoll) => [.box b3 31 q.cs, .tab readW]) (fun (i : Nat) (q : TPoll) => [(5, AV.int i)]) (fun (i : Nat) (q : TPoll) => acts.length - i) (0) (p) ?_ (N7 B6 ⟨rfl, rfl, rfl, trivial⟩) ?_
 ·exact ⟨Nat.zero_le _, hg0⟩
 intro i q hinv
 refine R12 ?_
 refine A6 (A0 rfl) ?_ ?_
 ·intro h33
  have hlt : i < acts.length := (by rw [Bool.and_eq_true, decide_eq_true_eq, A4] at h33; omega)
  obtain ⟨a, hx⟩ := F8 hlt
  have hst := step_le hinv.2 a
  have hgs := V8 hst.1
  have hc1 := cut_one hx
  have hle := hst.2
  have hqv : q.Voters.length ≤ 1000000 := (V8 hinv.2).voters.1
  refine R4 ?_
  refine Ak1 [(3, _), (4, _), (5, _), (26, _), (27, _), (28, _), (29, _), (30, _), (33, _)] ⟨rfl, rfl, rfl, rfl, rfl, rfl, rfl, rfl, rfl, trivial⟩ (fun (b6 : Nat) => [.box b6 31 (H9 q a).cs, .box b3 31 q.cs, .tab readW]) (fun (b6 : Nat) => [(6, AV.ptr b6 0), (7, AV.bool true)]) ?_ ?_
  ·skip
   refine AWP.le (C7 [0, 0] rfl) ?_
   refine K7 _ 12 (.pure 0 (.pure 1 (.pure 2 (.pure 3 (.pure 4 (.pure 5 (.pure 6 (.pure 7 (.pure 8 (.pure 9 (.e1 10 (.e1 11 .nil)))))))))))) qz8 qz8 rfl Q0 ?_
   refine R5 ?_
   refine M6 rfl rfl rfl (fun ext => AU9 rfl N5 f9 (A0 rfl) (A0 rfl) (A0 rfl) qz3 qz3 qz3) ?_
   refine M6 rfl rfl rfl (fun ext => y8 1 rfl rfl Tryz.call8 rfl (BD1 hinv.2 hc1) (A1 (A0 rfl) (A1 (A0 rfl) A3)) AJ1) ?_
   refine R4 ?_
   refine C4 rfl rfl rfl (G4 rfl Tryz.zeroValue31 rfl) (fun a _ => qz2) ?_
   intro b6 _
   refine R1 ?_
   refine Y4 rfl rfl rfl (N4 2 rfl rfl (A0 rfl) (A0 rfl) (F2 _) rfl C0 rfl) (fun a _ => qz2) ?_
   intro _ _
   refine R3 ?_
   exact ⟨b6, Le.trans (C7 [2, 0, 0] rfl) (E8 0 qz7 ⟨rfl, rfl, rfl, rfl, rfl, rfl, rfl, rfl, rfl, rfl, rfl, trivial⟩)⟩
  intro b6
  refine R2 ?_
  refine Ak1 [(3, _), (4, _), (5, _), (6, _), (7, _), (26, _), (27, _), (28, _), (29, _), (30, _), (33, _)] ⟨rfl, rfl, rfl, rfl, rfl, rfl, rfl, rfl, rfl, rfl, rfl, trivial⟩ (fun (b8 : Nat) => [.box b8 31 (H9 q a).cs, .box b3 31 q.cs, .box b6 31 (H9 q a).cs, .tab readW]) (fun (b8 : Nat) => [(8, AV.ptr b8 0), (9, AV.bool true)]) ?_ ?_
  ·skip
   refine AWP.le (C7 [1, 0, 0] rfl) ?_
   refine K7 _ 12 (.pure 0 (.pure 1 (.pure 2 (.pure 3 (.pure 4 (.pure 5 (.pure 6 (.pure 7 (.pure 8 (.pure 9 (.e1 10 (.e1 11 .nil)))))))))))) qz8 qz8 rfl Q0 ?_
   refine R5 ?_
   refine M6 rfl rfl rfl (fun ext => AU9 rfl N5 f9 (A0 rfl) (A0 rfl) (A0 rfl) qz3 qz3 qz3) ?_
   refine M6 rfl rfl rfl (fun ext => B3 rfl Tryz.call9 rfl (BD2 hinv.2 hc1) (A1 (A0 rfl) (A1 (A0 rfl) A3))) ?_
   refine R4 ?_
   refine C4 rfl rfl rfl (G4 rfl Tryz.zeroValue31 rfl) (fun a _ => qz2) ?_
   intro b8 _
   refine R1 ?_
   refine Y4 rfl rfl rfl (N4 3 rfl rfl (A0 rfl) (A0 rfl) (F2 _) rfl C0 rfl) (fun a _ => qz2) ?_
   intro _ _
   refine R3 ?_
   exact ⟨b8, Le.trans (C7 [3, 0, 0, 0] rfl) (E8 0 qz7 ⟨rfl, rfl, rfl, rfl, rfl, rfl, rfl, rfl, rfl, rfl, rfl, rfl, rfl, trivial⟩)⟩
  intro b8
  refine R7 ?_
  refine J6 rfl (fun hc => B3 rfl Tryz.call10 rfl (Ay0 (H9 q a) hgs) (A1 (B9 rfl hc) (A1 (B9 rfl hc) A3))) ?_
  refine R3 ?_
  refine A6 (A0 rfl) ?_ ?_
  ·intro h63
   exfalso; simp at h63
  intro h63
  refine R7 ?_
  refine AWP.le (C7 [1, 1, 1, 0] rfl) ?_
  refine J0 [(3, _), (4, _), (5, _), (6, _), (7, _), (8, _), (26, _), (27, _), (28, _), (29, _), (30, _), (33, _), (56, _), (57, _), (58, _), (63, _)] _ (fun (k : Nat) => k ≤ q.Voters.length) (fun (k : Nat) => [.box b3 31 q.cs, .box b6 31 (H9 q a).cs, .tab readW, .box b8 31 (H9 q a).cs]) (fun (k : Nat) => [(10, AV.int k)]) (fun (k : Nat) => q.Voters.length - k) (0) ?_ (N7 B6 ⟨rfl, rfl, rfl, rfl, rfl, rfl, rfl, rfl, rfl, rfl, rfl, rfl, rfl, rfl, rfl, rfl, rfl, trivial⟩) ?_
  ·exact Nat.zero_le _
  intro k hinv
  refine R9 ?_
  refine A6 (A0 rfl) ?_ ?_
  ·intro h68
   have k68 := of_decide_eq_true h68; try simp only [A4] at k68
   have hlk : k < q.Voters.length := (by simpa using h68)
   obtain ⟨x, hxk⟩ := F8 hlk
   obtain ⟨y, hyk⟩ := F8 (show k < (H9 q a).Voters.length by have h9 := hle.1; omega)
   have hlev := hle.2 k x y hxk hyk
   obtain ⟨hle1, hle2⟩ := hlev
   refine R4 ?_
   refine awp_cut2 [(3, _), (4, _), (5, _), (6, _), (7, _), (8, _), (10, _), (26, _), (27, _), (28, _), (29, _), (30, _), (33, _), (56, _), (57, _), (58, _), (63, _), (64, _), (65, _), (66, _), (67, _), (68, _)] ⟨rfl, rfl, rfl, rfl, rfl, rfl, rfl, rfl, rfl, rfl, rfl, rfl, rfl, rfl, rfl, rfl, rfl, rfl, rfl, rfl, rfl, rfl, trivial⟩ (fun (b11 : Nat) (b12 : Nat) => [.box b11 40 x.cs, .box b12 40 y.cs, .box b3 31 q.cs, .box b6 31 (H9 q a).cs, .tab readW, .box b8 31 (H9 q a).cs]) (fun (b11 : Nat) (b12 : Nat) => [(11, AV.ptr b11 0), (12, AV.ptr b12 0)]) ?_ ?_
   ·skip
    refine AWP.le (C7 [0, 0, 0, 0] rfl) ?_
    refine K7 _ 13 (.pure 0 (.pure 1 (.pure 2 (.pure 3 (.pure 4 (.pure 5 (.pure 6 (.pure 7 (.pure 8 (.pure 9 (.e2 10 (.e1 11 (.e1 12 .nil)) 11 (.e1 10 (.e1 12 .nil))))))))))))) qz8 qz8 rfl (U0 3) ?_
    refine R3 ?_
    refine M6 rfl rfl rfl (fun ext => H3 rfl B0 B4 (A0 rfl) (A0 rfl) hxk qz3) ?_
    refine R4 ?_
    refine M6 rfl rfl rfl (fun ext => H3 rfl B0 B4 (A0 rfl) (A0 rfl) hyk qz3) ?_
    refine R1 ?_
    refine Y8 ?_ ?_
    ·refine C4 rfl rfl rfl (G4 rfl Tryz.zeroValue40 rfl) (fun a _ => qz2) ?_
     intro b11 _
     refine R1 ?_
     refine C4 rfl rfl rfl (G4 rfl Tryz.zeroValue40 rfl) (fun a _ => qz2) ?_
     intro b12 _
     refine R1 ?_
     refine Y4 rfl rfl rfl (N4 4 rfl rfl (A0 rfl) (A0 rfl) (F2 _) rfl B4 rfl) (fun a _ => qz2) ?_
     intro _ _
     refine R3 ?_
     exact ⟨b11, b12, Le.trans (C7 [4, 4, 0, 0, 0, 0] rfl) (E8 0 qz7 ⟨rfl, rfl, rfl, rfl, rfl, rfl, rfl, rfl, rfl, rfl, rfl, rfl, rfl, rfl, rfl, rfl, rfl, rfl, rfl, rfl, rfl, rfl, rfl, rfl, trivial⟩)⟩
    refine C4 rfl rfl rfl (G4 rfl Tryz.zeroValue40 rfl) (fun a _ => qz2) ?_
    intro b12 _
    refine R1 ?_
    refine C4 rfl rfl rfl (G4 rfl Tryz.zeroValue40 rfl) (fun a _ => qz2) ?_
    intro b11 _
    refine R1 ?_
    refine Y4 rfl rfl rfl (N4 5 rfl rfl (A0 rfl) (A0 rfl) (F2 _) rfl B4 rfl) (fun a _ => qz2) ?_
    intro _ _
    refine R3 ?_
    exact ⟨b11, b12, Le.trans (C7 [5, 4, 0, 0, 0, 0] rfl) (E8 0 qz7 ⟨rfl, rfl, rfl, rfl, rfl, rfl, rfl, rfl, rfl, rfl, rfl, rfl, rfl, rfl, rfl, rfl, rfl, rfl, rfl, rfl, rfl, rfl, rfl, rfl, trivial⟩)⟩
   intro b11 b12
   refine R27 ?_
   refine A6 (A0 rfl) ?_ ?_
   ·intro h104
    exfalso; simp at h104; rcases h104 with h9 | ⟨⟨h8, h7⟩, h6⟩ <;> first | omega | exact h6 (hle2 h8 h7)
   intro h104
   refine R6 ?_
   refine L0 k (k + 1) ?_ ?_ (Le.trans (C7 [0, 0, 0, 0, 0, 0] rfl) (E8 2 B6 ⟨rfl, rfl, rfl, rfl, rfl, rfl, rfl, rfl, rfl, rfl, rfl, rfl, rfl, rfl, rfl, rfl, rfl, trivial⟩))
   ·exact qz6
   omega
  intro h68
  have k68 := of_decide_eq_false h68; try simp only [A4] at k68
  refine R10 ?_
  refine Q5 i q (i + 1) (H9 q a) ?_ ?_ (Le.trans (C7 [1, 2, 0, 0] rfl) (E8 2 B6 ⟨rfl, rfl, rfl, trivial⟩))
  ·exact ⟨by omega, hst.1⟩
  omega
 intro h33
 refine R6 ?_
 exact H5 rfl (A8 rfl qz67)
end
theorem Aq9 : Ab2 Tryz.prog 22 (List Int) (fun l => [AL4 l]) (fun l => ∀ x ∈ l, (Lit.int .u8 x).wf = true) := Ap3 (sz := 1) Q3 qz8 (Ay5 T2) (fun _ => rfl)
set_option maxRecDepth 100000 in
theorem fnVoted_lifted (os : Os) (started : os.Started) (H : Type) (enc : TypeId × Value → H) :
    ReturnsInHanded {} Tryz.checked os 3 .any (fun w args => (Rows.fnVotedSpec.pre enc Tryz.prog Tryz.f3 [] false w args ∧ laidMetH Tryz.prog Rows.fnVotedRow.laid w) ∧ sizedMet enc Tryz.prog Tryz.f3 (OpenSpec.ofChange Rows.fnVotedSpec) false w args) (Rows.fnVotedSpec.post enc Tryz.prog Tryz.f3 false true false false) := by
  refine Go.AV.handed_shaped (C := Tryz.checked) (X := fun w _ => laidMetH Tryz.prog Rows.fnVotedRow.laid w) (fun _ _ _ hh h => h.of_heap hh) qz8 started qz8 Tryz.func3
    (ChangeSpec.witness_shaped (enc := enc) (C := Tryz.checked) (os := os) (X := fun w _ => laidMetH Tryz.prog Rows.fnVotedRow.laid w) false (World.laidAll Tryz.prog os Rows.fnVotedRow.laid) #[.slice none 0 0] 8 (World.laidAll_os _ _ _)
      (World.shaped_of_ZipB qz8 qz8) qz8 qz8 qz8
      (by rw [MakeChecks.laidMetH_plain _ _ _ qz8]; exact laidMet_laidAll _ qz8 qz8)) ?_
  intro W base args ds gs before hval0 hW hsh _ hL _
  rw [MakeChecks.laidMetH_plain _ _ _ qz8] at hL
  have hT : readW W := readW_of hL hsh
  have hval : ∀ (j : Nat) t v, Tryz.f3.params[j]? = some t → args[j]? = some v → Value.okWide Tryz.prog W .any base t v := hval0
  have hW2 := hW
  obtain ⟨p, q, hA0, hV, rfl, hfz, hnd⟩ := hW
  have hA : DataW.TrodAll enc Tryz.prog W 0 (fun _ => true) true Tryz.f3.params.toList args.toList ds p := hA0
  rw [Tryz.params3] at hA hval
  obtain ⟨v0, vs0, d0, ds0, p0, q0, hargs, rfl, rfl, h0, r0⟩ := trodAll_cons hA
  obtain ⟨rfl, rfl, rfl⟩ := trodAll_nil r0
  obtain rfl : args = #[v0] := by cases args; simp_all
  obtain ⟨rfl, rfl⟩ := trodVars_none hV
  have lt0 : ∀ x ∈ p0, x.block < W.heap.size := by obtain ⟨m, hm⟩ := h0; exact DataW.trod_lt m _ _ _ hm
  obtain ⟨a0, w0, g0⟩ := arg_one (Aq9) (by obtain ⟨y1, y2, y3, rfl⟩ := okWide_slice Q3 (hval 0 22 v0 rfl rfl); rfl) h0
  have hcall := Ay6 (Ao8 a0 w0) (O9.cons ⟨g0, fun w2 hw2 => Aw3 hT hw2⟩ (O9.nil _))
  clear hA0 hval0
  refine Calls.mono hcall fun e W2 ⟨he, bel⟩ => ?_
  subst he
  exact ⟨_, rfl, _, _, _, [], _, [], hW2, trodAll_mk1 (shut_bool T5 _), (trodAll_cons_mk (Below.trod (by kernel_rfl : laidOutB Tryz.prog = true) qz8 (of_decide_eq_true qz8) h0 bel lt0) trodAll_mk0), rfl, bel.frame _, fun h => by cases h⟩
theorem Ar0 {a b : Bool} (h : a = true) (k : b = true) : (a && b) = true := by rw [h, k]; rfl
set_option maxRecDepth 100000 in
theorem Aj2 : joinedFacts Tryz.pinned.checked.prog 3 Tryz.f3 Rows.fnVotedSpec Rows.fnVotedRow = true := by
  unfold joinedFacts
  iterate 18 (rw [Bool.and_assoc])
  refine Ar0 ?_ ?_
  · as_aux_lemma => kernel_rfl
  · as_aux_lemma => kernel_rfl
theorem Ar1 : Rows.FnVotedSaid :=
  OpenClaim.holds_of_wide 3 Tryz.f3 rfl rfl rfl rfl rfl rfl rfl ⟨rfl, rfl, rfl, rfl, rfl⟩ rfl rfl rfl rfl rfl qz8 Tryz.func3 Aj2
    (of_decide_eq_true qz8) (by unfold Func.isWrapper; first | (rw [if_pos (by decide +kernel)]; kernel_rfl) | (rw [if_neg (by decide +kernel)]; exact ⟨rfl, rfl⟩))
    (fun os started H enc _ => fnVoted_lifted os started H enc)
theorem fnVoted_proved : Rows.FnVotedCardSaid :=
  Claim7.holds_tied_plain_at .later [] [.data, .data, .data, .sentinel, .sentinel] true (true, "72dfda6577cd17bf831ed8003931d72c8ded9a5fa589595efad4f162e674fca9") true
    Ar1 (fun _ h => by cases h) qz8 (fun _ h => by cases h) fnVoted_row_tie rfl ⟨rfl, rfl⟩ qz8 rfl
    (fun f fn hf hfn => by
      obtain rfl : f = 3 := Option.some.inj ((show Tryz.prog.funcNamed "loop.example/g00850/laws.FnVoted" = some 3 by kernel_rfl).symm.trans hf) |>.symm
      obtain rfl : fn = Tryz.f3 := (Option.some.inj (Tryz.func3.symm.trans hfn)).symm
      exact ⟨by kernel_rfl, fun j t ht => by
        rw [Tryz.params3] at ht
        have hm : t ∈ [22] := by simpa using Array.mem_of_getElem? ht
        have hall : ([22].all fun u => !Tryz.prog.wantsStandIn u) = true := by kernel_rfl
        exact (show Tryz.prog.wantsStandIn t = false by simpa using List.all_eq_true.1 hall t hm)⟩)
    qz8
end Go.Proofs.YtkibefcceekmnaaGreatDoor
