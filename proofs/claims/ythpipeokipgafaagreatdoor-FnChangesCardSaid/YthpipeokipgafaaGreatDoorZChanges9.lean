/- Texts of the claim, part 9. -/
import Derived.Test.YthpipeokipgafaaGreatDoorZChanges8
set_option linter.defProp false
set_option linter.unusedVariables false
set_option linter.unusedSimpArgs false
set_option maxRecDepth 100000
set_option maxHeartbeats 4000000
namespace Go.PQ
open Go.Proofs
open Go Go.AV Go.M
attribute [local irreducible] OpW OpA OpS AWP J6 L3 K7 OpE K2 H9 K6 Le Ev F7 M7 f8 Int.tmod Int.tdiv IntKind.wrap T7
def WA (w : C9) (X : WX) (T : List (Value × Value)) (L : List Value) : List Go.AV.Own :=
  .arr X.cl 78 1 (w.Clocks.map S9.cs) :: .arr X.gr 81 3 (w.Groups.map C4.cs) :: .arr X.lo 97 1 (w.Locks.map fun l => [AV.list 3 (l.map G2.cs)]) ::
  .arr X.pr 3 1 (w.Promised.map fun n => [AV.int n]) :: .arr X.tx 102 10 (J7 B2.ocs w.Txns T) :: .arr X.lk 105 6 (J7 B6.ocs w.Looks L) ::
  (nwZ w T L)
def WV (w : C9) (X : WX) : List AV := [AV.int w.Now, AV.int w.Count, AV.is X.cl, strs w.Cuts, AV.is X.gr, AV.is X.lo, AV.is X.pr, AV.is X.tx, AV.is X.lk]
theorem Bc4 (g : C4) (hs : g.size ≤ 1048576) : E1 158 [AV.agg g.cs] (AV.agg g.cs) :=
  L5 (Al6 g hs) fun v _ => AK8 (D5 (K0 (Z5.2 rfl) F6) AE4)
theorem Bp1 {A : List Go.AV.Own} {l : List B6} {xs : List Value} {p : B6} {x : Value} {i : Nat} (hp : l[i]? = some p) (h : xs.length = i) : (B6.ow p x ++ (A ++ nin B6.ow (l.take i) xs)).Perm (A ++ nin B6.ow (l.take (i + 1)) (xs ++ [x])) :=
  (List.perm_append_comm_assoc _ _ _).trans ((AX6 (ow := B6.ow) (x := x) hp h).append_left _)
theorem Bc5 (w : C9) (hw : WI w) : M1 129 [AV.agg w.cs] [] (fun x : WX × List (Value × Value) × List Value => x.2.1.length = w.Txns.length ∧ x.2.2.length = w.Looks.length) (fun x => WA w x.1 x.2.1 x.2.2) (fun x => AV.agg (WV w x.1)) := by
 have hng := hw.n;have htl := hw.txns.1;have hll := hw.looks.1;have hcl := hw.clocks.1;have hcu := hw.cuts.1;have hpr := hw.promised.1;have hlo := hw.locks.1;refine C8 Tryz.func129 rfl Tryz.ntmps129 rfl ?_;refine R3 ?_;intro b1;refine R1 ?_;intro b2;refine R2 ?_;refine CV7 [(1, _), (2, _)] A8 (fun (b3 : Nat) (cv : Value) (pv : Value) => [.box b3 32 [AV.int w.Now, AV.int w.Count, AV.is cv, strs w.Cuts, AV.nils, AV.nils, AV.is pv, AV.nils, AV.nils], .box b1 32 w.cs, .box b2 32 (List.map j3 (Value.agg #[Value.int IntKind.i64 0, Value.int IntKind.i64 0, E4, E4, E4, E4, E4, E4, E4]).cells.toList), .arr cv 78 1 (w.Clocks.map S9.cs), .arr pv 3 1 (w.Promised.map fun n => [AV.int n])]) (fun (b3 : Nat) (cv : Value) (pv : Value) => [(3, AV.ptr b3 0)]) ?_ ?_
 ·skip
  refine AWP.le (B8 [1] rfl) ?_;refine X5 _ 16 (.pure 0 (.pure 1 (.pure 2 (.pure 3 (.pure 5 (.pure 6 (.pure 8 (.pure 9 (.pure 11 (.pure 12 (.e2 4 (.e2 7 (.pure 10 (.e2 13 (.pure 14 (.e1 15 .nil)) 15 (.e1 13 (.pure 14 .nil)))) 15 (.e1 7 (.pure 10 (.e1 13 (.pure 14 .nil))))) 15 (.e1 4 (.e1 7 (.pure 10 (.e1 13 (.pure 14 .nil)))))))))))))))) D4 D4 rfl (S3 1) ?_;refine R10 ?_;refine AL7 ?_ ?_
  ·refine I6 rfl rfl rfl (o9 rfl S0 y9) (fun a _ => qz4) ?_;intro v14 _;refine AL7 ?_ ?_
   ·refine I6 rfl rfl rfl (T2 2 (fun _ => rfl) (L4 (by' := 8) 2 rfl S0 Tryz.type78 rfl rfl rfl rfl rfl rfl (A0 rfl) (A0 rfl) rfl qz2)) (fun a _ => qz4) ?_;intro v17_1 hone_v17_1;have one_v17_1 := hone_v17_1.2;refine K9 rfl rfl rfl (fun ext => A5 rfl Tryz.call151 rfl (y6 _ qz8) (A2 (A0 rfl) B0)) ?_;refine AL7 ?_ ?_
    ·refine I6 rfl rfl rfl (T2 3 (fun _ => rfl) (P5 [] rfl Tryz.call157 rfl (AM7 w.Promised qz8) J3 rfl)) (fun a _ => qz4) ?_;intro x23 ok23;have one_x23 := ok23.2
     replace ok23 := ok23.1
     refine K9 rfl rfl rfl (fun ext => Y6 (places := #[(0, 1), (1, 1), (2, 1), (3, 1), (4, 1), (5, 1), (6, 1), (7, 1), (8, 1)]) rfl V6 Tryz.zeroValue32 (fun w => by kernel_rfl) rfl (D8 (A0 rfl) (W4 _ _) (D8 (A0 rfl) (W4 _ _) (D8 (A0 rfl) (K4 one_v17_1) (D8 (A0 rfl) (g8 _ _) (D8 (A0 rfl) (K4 one_x23) U1))))) rfl) ?_;refine R1 ?_;refine I6 rfl rfl rfl (X3 rfl Tryz.zeroValue32 rfl) (fun a _ => qz4) ?_;intro b3 _;refine R3 ?_;exact ⟨b3, v17_1, x23, Le.trans (B8 [4, 0, 0, 0, 0] rfl) (E5 0 C1 A8)⟩
    refine I6 rfl rfl rfl (X3 rfl Tryz.zeroValue32 rfl) (fun a _ => qz4) ?_;intro b3 _;refine R1 ?_;refine I6 rfl rfl rfl (T2 4 (fun _ => rfl) (P5 [] rfl Tryz.call157 rfl (AM7 w.Promised qz8) J3 rfl)) (fun a _ => qz4) ?_;intro x23 ok23;have one_x23 := ok23.2
    replace ok23 := ok23.1
    refine K9 rfl rfl rfl (fun ext => Y6 (places := #[(0, 1), (1, 1), (2, 1), (3, 1), (4, 1), (5, 1), (6, 1), (7, 1), (8, 1)]) rfl V6 Tryz.zeroValue32 (fun w => by kernel_rfl) rfl (D8 (A0 rfl) (W4 _ _) (D8 (A0 rfl) (W4 _ _) (D8 (A0 rfl) (K4 one_v17_1) (D8 (A0 rfl) (g8 _ _) (D8 (A0 rfl) (K4 one_x23) U1))))) rfl) ?_;refine R3 ?_;exact ⟨b3, v17_1, x23, Le.trans (B8 [3, 0, 0, 0, 0] rfl) (E5 0 C1 A8)⟩
   refine I6 rfl rfl rfl (X3 rfl Tryz.zeroValue32 rfl) (fun a _ => qz4) ?_;intro b3 _;refine R1 ?_;refine I6 rfl rfl rfl (T2 2 (fun _ => rfl) (L4 (by' := 8) 2 rfl S0 Tryz.type78 rfl rfl rfl rfl rfl rfl (A0 rfl) (A0 rfl) rfl qz2)) (fun a _ => qz4) ?_;intro v17_2 hone_v17_2;have one_v17_2 := hone_v17_2.2;refine K9 rfl rfl rfl (fun ext => A5 rfl Tryz.call151 rfl (y6 _ qz8) (A2 (A0 rfl) B0)) ?_;refine R1 ?_;refine I6 rfl rfl rfl (T2 4 (fun _ => rfl) (P5 [] rfl Tryz.call157 rfl (AM7 w.Promised qz8) J3 rfl)) (fun a _ => qz4) ?_;intro x23 ok23;have one_x23 := ok23.2
   replace ok23 := ok23.1
   refine K9 rfl rfl rfl (fun ext => Y6 (places := #[(0, 1), (1, 1), (2, 1), (3, 1), (4, 1), (5, 1), (6, 1), (7, 1), (8, 1)]) rfl V6 Tryz.zeroValue32 (fun w => by kernel_rfl) rfl (D8 (A0 rfl) (W4 _ _) (D8 (A0 rfl) (W4 _ _) (D8 (A0 rfl) (K4 one_v17_2) (D8 (A0 rfl) (g8 _ _) (D8 (A0 rfl) (K4 one_x23) U1))))) rfl) ?_;refine R3 ?_;exact ⟨b3, v17_2, x23, Le.trans (B8 [3, 0, 0, 0, 0] rfl) (E5 0 C1 A8)⟩
  refine I6 rfl rfl rfl (X3 rfl Tryz.zeroValue32 rfl) (fun a _ => qz4) ?_;intro b3 _;refine R1 ?_;refine I6 rfl rfl rfl (o9 rfl S0 y9) (fun a _ => qz4) ?_;intro v14 _;refine R1 ?_;refine I6 rfl rfl rfl (T2 3 (fun _ => rfl) (L4 (by' := 8) 3 rfl S0 Tryz.type78 rfl rfl rfl rfl rfl rfl (A0 rfl) (A0 rfl) rfl qz2)) (fun a _ => qz4) ?_;intro v17_3 hone_v17_3;have one_v17_3 := hone_v17_3.2;refine K9 rfl rfl rfl (fun ext => A5 rfl Tryz.call151 rfl (y6 _ qz8) (A2 (A0 rfl) B0)) ?_;refine R1 ?_;refine I6 rfl rfl rfl (T2 4 (fun _ => rfl) (P5 [] rfl Tryz.call157 rfl (AM7 w.Promised qz8) J3 rfl)) (fun a _ => qz4) ?_;intro x23 ok23;have one_x23 := ok23.2
  replace ok23 := ok23.1
  refine K9 rfl rfl rfl (fun ext => Y6 (places := #[(0, 1), (1, 1), (2, 1), (3, 1), (4, 1), (5, 1), (6, 1), (7, 1), (8, 1)]) rfl V6 Tryz.zeroValue32 (fun w => by kernel_rfl) rfl (D8 (A0 rfl) (W4 _ _) (D8 (A0 rfl) (W4 _ _) (D8 (A0 rfl) (K4 one_v17_3) (D8 (A0 rfl) (g8 _ _) (D8 (A0 rfl) (K4 one_x23) U1))))) rfl) ?_;refine R3 ?_;exact ⟨b3, v17_3, x23, Le.trans (B8 [2, 0, 0, 0, 0] rfl) (E5 0 C1 A8)⟩
 intro b3 cv pv;refine R9 ?_;refine d6 81 3 ?_;refine d6 97 1 ?_;refine AWP.le (B8 [2, 1, 0] rfl) ?_;refine W7 [(1, _), (2, _), (3, _), (26, _), (27, _)] _ (fun (i : Nat) (gv : Value) (lv : Value) => i ≤ w.Groups.length) (fun i gv lv => [.box b3 32 [AV.int w.Now, AV.int w.Count, AV.is cv, strs w.Cuts, AV.is gv, AV.is lv, AV.is pv, AV.nils, AV.nils], .arr gv 81 3 ((w.Groups.take i).map C4.cs), .arr lv 97 1 ((w.Locks.take i).map fun l => [AV.list 3 (l.map G2.cs)])]) (fun i gv lv => [(28, AV.int i)]) (fun i gv lv => w.Groups.length - i) (0) (E4) (E4) ?_ (K1 C1 A8) ?_
 ·exact E2 _
 intro i gv lv hinv;refine R5 ?_;refine A3 ?_ ?_
 ·intro h29;have k29 := C5 h29;have hlt : i < w.Groups.length := Be4;obtain ⟨g, hg⟩ := B4 hlt;have hgs := As4 (hw.groups g (C2 hg)).good;obtain ⟨k, hk⟩ := B4 (show i < w.Locks.length by omega);have hk60 := (hw.locks.2 k (C2 hk)).1;refine R6 ?_;refine A1 rfl (D3 rfl G7 E0 (A0 rfl) (A0 rfl) hg qz2) ?_;refine R2 ?_;intro b5;refine R4 ?_;refine G0 AL5 ?_;refine AWP.le (B8 [1, 0] rfl) ?_;refine M6 5 D4 D4 rfl ?_;refine R3 ?_;refine C0 rfl rfl (A5 rfl Tryz.call158 rfl (Bc4 g qz8) J3) ?_;refine R2 ?_;refine H4 (by' := 40) 2 rfl rfl rfl rfl G7 Tryz.type81 rfl rfl rfl rfl rfl rfl (A0 rfl) (A0 rfl) rfl qz2 ?_;intro v38_4;refine R1 ?_;refine O7 2 rfl fun one_v38_4 => ?_;refine N0 0 rfl rfl rfl (A0 rfl) (A0 rfl) (K4 one_v38_4) rfl Tryz.sizeOf26 rfl ?_;refine R1 ?_;refine G0 AL5 ?_;refine AWP.le (B8 [0, 3] rfl) ?_;refine O8 _ [(0, false), (1, false), (3, false), (4, false), (5, false), (6, false), (7, false), (2, true), (8, true), (9, false), (10, true)] D4 D4 rfl (S3 2) ?_;refine R5 ?_;refine P4 rfl rfl rfl (fun ext => D3 rfl T1 m2 (A0 rfl) (A0 rfl) hk qz2) ?_;refine R1 ?_;refine T4 rfl rfl rfl (o9 rfl T0 i8) (fun a _ => qz4) ?_;intro v42 _;refine T4 rfl rfl rfl (Ac8 [8] (fun _ => rfl) (fun _ => K0 (C2 (i := 0) rfl) F6) (fun _ => U2) (L4 (by' := 32) 8 rfl T0 Tryz.type139 rfl rfl rfl rfl rfl rfl (A0 rfl) (A0 rfl) rfl qz2)) (fun a _ => qz4) ?_;intro v48_5 _;refine R1 ?_;refine T4 rfl rfl rfl (L4 (by' := 24) 4 rfl T1 Tryz.type97 rfl rfl rfl rfl rfl rfl (A0 rfl) (A0 rfl) rfl qz2) (fun a _ => qz4) ?_;intro v50_6 _;refine R2 ?_;refine O7 4 rfl fun one_v50_6 => ?_;refine N0 0 rfl rfl rfl (A0 rfl) (A0 rfl) (K4 one_v50_6) rfl Tryz.sizeOf27 rfl ?_;refine R1 ?_;refine G0 AL5 ?_;refine R4 ?_;refine S7 i gv lv (i + 1) (v38_4) (v50_6) ?_ ?_ (Le.trans (B8 [2, 0, 1, 1] rfl) (E5 1 (by (rw [T5, hg, X1, T5, hk, X1]; rfl)) A8))
  ·exact qz8
  omega
 intro h29;have k29 := B9 h29;have hge : w.Groups.length ≤ i := Be4;rw [show w.Groups.take i = w.Groups from P8 qz8, show w.Locks.take i = w.Locks from P8 qz8];refine R10 ?_;refine d6 102 10 ?_;refine AWP.le (B8 [1, 4, 3, 3, 3, 1, 1, 0] rfl) ?_;refine W7 [(1, _), (2, _), (3, _), (54, _), (55, _)] [] (fun (j : Nat) (tv : Value) (T : List (Value × Value)) => j ≤ w.Txns.length ∧ T.length = j) (fun j tv T => [.box b3 32 [AV.int w.Now, AV.int w.Count, AV.is cv, strs w.Cuts, AV.is gv, AV.is lv, AV.is pv, AV.is tv, AV.nils], .box b2 32 (List.map j3 (Value.agg #[Value.int IntKind.i64 0, Value.int IntKind.i64 0, E4, E4, E4, E4, E4, E4, E4]).cells.toList), .box b1 32 w.cs, .arr cv 78 1 (w.Clocks.map S9.cs), .arr pv 3 1 (w.Promised.map fun n => [AV.int n]), .arr gv 81 3 (w.Groups.map C4.cs), .arr lv 97 1 (w.Locks.map fun l => [AV.list 3 (l.map G2.cs)]), .arr tv 102 10 (J7 B2.ocs (w.Txns.take j) T)] ++ (nin B2.ow (w.Txns.take j) T)) (fun j tv T => [(56, AV.int j)]) (fun j tv T => w.Txns.length - j) (0) (E4) ([]) ?_ (K1 C1 A8) ?_
 ·exact ⟨E2 _, rfl⟩
 intro j tv T hinv;refine G0 (Q6 _) ?_;refine R5 ?_;refine A3 ?_ ?_
 ·intro h57;have k57 := C5 h57;have hltj : j < w.Txns.length := Be5;obtain ⟨t, ht⟩ := B4 hltj;have htk := hw.txns.2 t (C2 ht);have hol := htk.sb.len;have hgl := htk.got.1;have htm := htk.terms;refine R5 ?_;refine A1 rfl (D3 rfl M9 S6 (A0 rfl) (A0 rfl) ht qz2) ?_;refine R2 ?_;intro b7;refine R4 ?_;refine P6 rfl rfl rfl rfl V7 Y2 ?_;intro v60;refine R2 ?_;refine H4 (by' := 48) 0 rfl rfl rfl rfl V7 Tryz.type183 rfl rfl rfl rfl rfl rfl (A0 rfl) (A0 rfl) rfl qz2 ?_;intro v63_7;refine R1 ?_;refine O7 0 rfl fun one_v63_7 => ?_;refine N0 1 rfl rfl rfl (A0 rfl) (A0 rfl) (K4 one_v63_7) rfl AV2 rfl ?_;refine R2 ?_;refine AWP.le (Ar5 [0] 0 (.box b7 102 t.cs) rfl rfl ⟨rfl, rfl, (D5 (K0 (C2 (i := 0) rfl) F6) (D5 I0 (D5 I0 (D5 I0 (D5 I0 (D5 I0 (D5 I0 (D5 I0 (D5 I0 (D5 I0 d5))))))))))⟩ U2) ?_;refine G0 AL5 ?_;refine R1 ?_;refine P6 rfl rfl rfl rfl P0 d9 ?_;intro v65;refine R2 ?_;refine H4 (by' := 40) 0 rfl rfl rfl rfl P0 Tryz.type145 rfl rfl rfl rfl rfl rfl (A0 rfl) (A0 rfl) rfl qz2 ?_;intro v68_8;refine R1 ?_;refine O7 0 rfl fun one_v68_8 => ?_;refine N0 1 rfl rfl rfl (A0 rfl) (A0 rfl) (K4 one_v68_8) rfl T9 rfl ?_;refine R2 ?_;refine G0 AL5 ?_;refine R3 ?_;refine F8 [] rfl rfl rfl rfl Tryz.call157 rfl (AM7 t.Terms qz8) J3 rfl ?_;intro x72 ok72;refine R1 ?_;refine O7 0 rfl fun one_x72 => ?_;refine N0 2 rfl rfl rfl (A0 rfl) (A0 rfl) (K4 one_x72) rfl AV4 rfl ?_;refine R1 ?_;refine G0 AL5 ?_;refine R5 ?_;refine H4 (by' := 112) 10 rfl rfl rfl rfl M9 Tryz.type102 rfl rfl rfl rfl rfl rfl (A0 rfl) (A0 rfl) rfl BP4 ?_;intro v78_9;refine R1 ?_;refine O7 10 rfl fun one_v78_9 => ?_;refine N0 3 rfl rfl rfl (A0 rfl) (A0 rfl) (K4 one_v78_9) rfl AV6 rfl ?_;refine R1 ?_;refine G0 AL5 ?_;refine AWP.le (B8 [2, 2, 2, 2, 2, 2, 2, 2, 2, 1, 0] rfl) ?_;refine AWP.le (S4 9 (t := nin B2.ow (w.Txns.take (j + 1)) (T ++ [(v68_8, x72)])) (AX6 (ow := B2.ow) (x := (v68_8, x72)) ht hinv.2)) ?_;refine R4 ?_;refine S7 j tv T (j + 1) (v78_9) (T ++ [(v68_8, x72)]) ?_ ?_ (Le.trans (B8 [0, 0, 0, 0, 0, 0, 0, 0, 0] rfl) (E5 1 (Eq.trans qz193 (Q6 _).symm) A8))
  ·exact ⟨by omega, by rw [H3, hinv.2]; rfl⟩
  omega
 intro h57;have k57 := B9 h57;have hxT : T.length = w.Txns.length := (by have h9 : w.Txns.length ≤ j := Be5; omega);rw [show w.Txns.take j = w.Txns from P8 qz8];refine R10 ?_;refine d6 105 6 ?_;refine AWP.le (B8 [1, 1, 1, 1, 1, 1, 1, 1, 0] rfl) ?_;refine W7 [(2, _), (3, _), (82, _), (83, _)] [] (fun (m : Nat) (kv : Value) (L : List Value) => m ≤ w.Looks.length ∧ L.length = m) (fun m kv L => [.box b3 32 [AV.int w.Now, AV.int w.Count, AV.is cv, strs w.Cuts, AV.is gv, AV.is lv, AV.is pv, AV.is tv, AV.is kv], .box b2 32 (List.map j3 (Value.agg #[Value.int IntKind.i64 0, Value.int IntKind.i64 0, E4, E4, E4, E4, E4, E4, E4]).cells.toList), .box b1 32 w.cs, .arr cv 78 1 (w.Clocks.map S9.cs), .arr pv 3 1 (w.Promised.map fun n => [AV.int n]), .arr gv 81 3 (w.Groups.map C4.cs), .arr lv 97 1 (w.Locks.map fun l => [AV.list 3 (l.map G2.cs)]), .arr tv 102 10 (J7 B2.ocs w.Txns T), .arr kv 105 6 (J7 B6.ocs (w.Looks.take m) L)] ++ (nin B2.ow w.Txns T ++ nin B6.ow (w.Looks.take m) L)) (fun m kv L => [(84, AV.int m)]) (fun m kv L => w.Looks.length - m) (0) (E4) ([]) ?_ (K1 qz153 A8) ?_
 ·exact ⟨E2 _, rfl⟩
 intro m kv L hinv;refine G0 (Q6 _) ?_;refine R5 ?_;refine A3 ?_ ?_
 ·intro h85;have k85 := C5 h85;have hltm : m < w.Looks.length := (by simpa using h85);obtain ⟨q, hk9⟩ := B4 hltm;have hqk := hw.looks.2 q (C2 hk9);have hqg := hqk.got.1;have hqn := hqk.keys.1;refine R5 ?_;refine A1 rfl (D3 rfl AA0 Tryz.sizeOf105 (A0 rfl) (A0 rfl) hk9 qz2) ?_;refine R2 ?_;intro b9;refine R6 ?_;refine A1 rfl (A5 rfl Tryz.call151 rfl (y6 _ qz8) (A2 (A0 rfl) B0)) ?_;refine R5 ?_;refine P6 rfl rfl rfl rfl P0 d9 ?_;intro v92;refine R2 ?_;refine H4 (by' := 40) 0 rfl rfl rfl rfl P0 Tryz.type145 rfl rfl rfl rfl rfl rfl (A0 rfl) (A0 rfl) rfl qz2 ?_;intro v95_10;refine R1 ?_;refine O7 0 rfl fun one_v95_10 => ?_;refine N0 1 rfl rfl rfl (A0 rfl) (A0 rfl) (K4 one_v95_10) rfl T9 rfl ?_;refine R1 ?_;refine G0 AL5 ?_;refine R5 ?_;refine H4 (by' := 80) 10 rfl rfl rfl rfl AA0 Tryz.type105 rfl rfl rfl rfl rfl rfl (A0 rfl) (A0 rfl) rfl BP4 ?_;intro v101_11;refine R1 ?_;refine O7 10 rfl fun one_v101_11 => ?_;refine N0 2 rfl rfl rfl (A0 rfl) (A0 rfl) (K4 one_v101_11) rfl Tryz.sizeOf30 rfl ?_;refine R1 ?_;refine G0 AL5 ?_;refine AWP.le (B8 [1, 1, 1, 1, 1, 1, 1, 1, 1, 1, 0] rfl) ?_;refine AWP.le (S4 10 (t := nin B2.ow w.Txns T ++ nin B6.ow (w.Looks.take (m + 1)) (L ++ [v95_10])) (Bp1 (x := v95_10) hk9 hinv.2)) ?_;refine R4 ?_;refine S7 m kv L (m + 1) (v101_11) (L ++ [v95_10]) ?_ ?_ (Le.trans (B8 [0, 0, 0, 0, 0, 0, 0, 0, 0, 0] rfl) (E5 1 (Eq.trans (by (rw [← AQ8 (ocs := B6.ocs) (x := v95_10) hk9 hinv.2]; rfl)) (Q6 _).symm) A8))
  ·exact ⟨by omega, by rw [H3, hinv.2]; rfl⟩
  omega
 intro h85;have k85 := B9 h85;have hxL : L.length = w.Looks.length := (by have h9 : w.Looks.length ≤ m := (by simpa using h85); omega);rw [show w.Looks.take m = w.Looks from P8 qz8];refine R7 ?_;exact H7 [3, 4, 4, 3, 3, 3] 3 (nwZ w T L) [] ((⟨cv, gv, lv, pv, tv, kv⟩, T, L)) (⟨hxT, hxL⟩) rfl (show List.Perm (nwZ w T L) ((nwZ w T L) ++ []) from B7) C1 (M4 rfl (F3 (ys := _) 1 rfl rfl U9 O2 rfl))
end Go.PQ
namespace Go.M
open Go.AV
def zWorld : C9 := ⟨0, 0, [], [], [], [], [], [], []⟩
def Be0 (l : List Str) : Bool := (l.all n1 && adj Op.bytesLess l) && within (l.length : Int) 1 8
theorem l16K_of {l : List Str} (h0 : 1 ≤ l.length ∧ l.length ≤ 8) (hk : ∀ k ∈ l, k ∈ u5) (hs : AN6 l) : Be0 l = true := by
  unfold Be0 within
  rw [i7 qz8, i7 qz8, E8, E8];refine ⟨⟨l5.2 fun k h => by rw [← AA7]; exact (AR1 (hk k h)).1, ?_⟩, rfl⟩;have h1 := DG4 (fun k h => (AR1 (hk k h)).1) hs;unfold g7 at h1;simp only [E8] at h1;exact h1.2
def BJ3 : C4 := (AM8 3).1
theorem newG3_wg : WG BJ3 := by
  refine ⟨AK3.1 F1, rfl, fun h => ?_, fun r hr e he => ?_⟩
  · exact absurd h F1
  · have : ∀ r ∈ BJ3.Reps, r.Log = [] := by decide
    rw [this r hr] at he; cases he
def Cg1 (n : Nat) (p : List TOp) : B2 := ⟨p, [], List.replicate n 0, -1, -1, false, 0, false, false, false⟩
def BO8 (n : Nat) (k : Nat) (l : List Str) : B6 := ⟨Int.tmod (k : Int) (3 * (n : Int)), l, [], 0, -1, -1⟩
def Ak8 (n : Nat) (ls : List (List Str)) (i : Nat) : List B6 := (List.range i).map fun k => BO8 n k (ls.getD k [])
theorem Bc6 (n : Nat) (ls : List (List Str)) (i : Nat) : (Ak8 n ls i).length = i := by unfold Ak8; rw [A7, List.length_range]
theorem Cf1 {n : Nat} {ls : List (List Str)} {i : Nat} {l : List Str} (h : ls[i]? = some l) : (Ak8 n ls ls.length)[i]? = some (BO8 n i l) := by
  have hi := (E9.1 h).1;unfold Ak8;rw [X2, List.getElem?_range hi];show some (BO8 n i (ls.getD i [])) = _
  rw [show ls.getD i [] = l by rw [List.getD_eq_getElem?_getD, h]; rfl]
def At7 (cuts : List Str) (ps : List (List TOp)) (ls : List (List Str)) : C9 :=
  ⟨0, 0, List.replicate (3 * (cuts.length + 1)) ⟨0⟩, cuts, List.replicate (cuts.length + 1) BJ3, List.replicate (cuts.length + 1) [], List.replicate (cuts.length + 1) 0, ps.map (Cg1 (cuts.length + 1)), Ak8 (cuts.length + 1) ls ls.length⟩
structure NewOk (cuts : List Str) (ps : List (List TOp)) (ls : List (List Str)) : Prop where
  cuts : AW3 cuts = true ∧ cuts.length ≤ 2 ∧ ∀ k ∈ cuts, k.length ≤ 12
  ps : ps.length ≤ 4 ∧ ∀ p ∈ ps, (AE8 p = true ∧ ∀ o ∈ p, o.Key ∈ u5) ∧ 1 ≤ p.length
  ls : ls.length ≤ 4 ∧ ∀ l ∈ ls, (1 ≤ l.length ∧ l.length ≤ 8) ∧ AN6 l ∧ ∀ k ∈ l, k ∈ u5
theorem NewOk.wi {cuts : List Str} {ps : List (List TOp)} {ls : List (List Str)} (h : NewOk cuts ps ls) : WI (At7 cuts ps ls) where
  n := by have := h.cuts.2.1; unfold At7; dsimp only; rw [AT9]; omega
  clocks := ⟨by unfold At7; dsimp only; rw [AT9, AT9], fun c hc => by rw [(Ah1.1 hc).2]; decide⟩
  cuts := ⟨by unfold At7; dsimp only; rw [AT9], h.cuts.2.2⟩
  locks := ⟨by unfold At7; dsimp only; rw [AT9, AT9], fun l hl => by rw [(Ah1.1 hl).2]; exact ⟨E2 _, fun x hx => by cases hx⟩⟩
  promised := ⟨by unfold At7; dsimp only; rw [AT9, AT9], fun p hp => by rw [(Ah1.1 hp).2]; decide⟩
  groups := fun g hg => by rw [(Ah1.1 hg).2]; exact newG3_wg
  txns := ⟨by unfold At7; dsimp only; rw [A7]; have := h.ps.1; omega, fun t ht => by
    obtain ⟨p, hp, rfl⟩ := Y0.1 ht;refine ⟨?_, (h.ps.2 p hp).1, ⟨E2 _, fun g hg => by cases hg⟩, ⟨show (-1 : Int) ≤ 0 by decide, .inl rfl⟩⟩;show (List.replicate (cuts.length + 1) (0 : Int)).length = (List.replicate (cuts.length + 1) BJ3).length
    rw [AT9, AT9]⟩
  looks := ⟨by unfold At7 Ak8; dsimp only; rw [A7, List.length_range]; exact h.ls.1, fun l hl => by
    obtain ⟨k, hk, rfl⟩ := Y0.1 hl;have hkl := List.mem_range.1 hk;obtain ⟨q, hq⟩ := B4 hkl;have hd : ls.getD k [] = q := by rw [List.getD_eq_getElem?_getD, hq]; rfl
    have hq9 := h.ls.2 q (C2 hq);show LkOk (List.replicate (cuts.length + 1) BJ3).length _ (BO8 (cuts.length + 1) k (ls.getD k []))
    rw [hd, AT9];refine ⟨(show 0 ≤ Int.tmod (k : Int) (3 * ((cuts.length + 1 : Nat) : Int)) ∧ Int.tmod (k : Int) (3 * ((cuts.length + 1 : Nat) : Int)) < 3 * ((cuts.length + 1 : Nat) : Int) from ⟨Int.tmod_nonneg _ qz8, Int.tmod_lt_of_pos _ qz8⟩), ⟨hq9.1.2, fun x hx => by have := (AR1 (hq9.2.2 x hx)).2; omega⟩, ⟨E2 _, fun g hg => by cases hg⟩, ⟨show (-1 : Int) ≤ 0 by decide, .inl rfl⟩, show (0 : Int) ≤ 0 ∧ (0 : Int) ≤ 1000000 by decide⟩⟩
  now := show (0 : Int) ≤ 0 ∧ (0 : Int) ≤ 100000 by decide
  count := show (0 : Int) ≤ 0 ∧ (0 : Int) ≤ 1000000 by decide
theorem newW_wq (cuts : List Str) (ps : List (List TOp)) (ls : List (List Str)) : ∀ v : C9, v.Txns = (At7 cuts ps ls).Txns → v.Looks = (At7 cuts ps ls).Looks → v.Count = 0 → WQ v := fun v h1 h2 h3 => ⟨fun t ht => by
    rw [h1] at ht;obtain ⟨p, hp, rfl⟩ := Y0.1 ht;rw [h3]; exact (show (-1 : Int) < 0 by decide), fun l hl => by
    rw [h2] at hl;obtain ⟨k, hk, rfl⟩ := Y0.1 hl;rw [h3]; exact (show (-1 : Int) < 0 by decide)⟩
theorem BE4 {α β : Type} {c : α → β} {n : Nat} {x : α} : (List.replicate n x).map c = List.replicate n (c x) := List.map_replicate ..
theorem nilRows {own : List Go.AV.Own} (n : Nat) : BU7 own (List.replicate n [AV.nils]) ((List.replicate n ([] : List G2)).map fun l => [AV.list 3 (l.map G2.cs)]) := by
  refine ⟨by simp, fun i e f h k => ?_⟩;rw [List.getElem?_replicate] at h;rw [X2, List.getElem?_replicate] at k;split at h
  · rename_i hlt
    rw [D0 hlt] at k;injection h with h; injection k with k; subst h; subst k
    exact D5 Cn7 d5
  · cases h
structure WZ (w : C9) : Prop where
  groups : w.Groups.length ≤ 3 ∧ ∀ g ∈ w.Groups, g.size ≤ 1048576 ∧ AJ8 Aj0 g
  cuts : w.Cuts.length ≤ 2 ∧ ∀ k ∈ w.Cuts, k.length ≤ 12
  clocks : w.Clocks.length ≤ 9
  locks : w.Locks.length ≤ 3 ∧ ∀ l ∈ w.Locks, C7 G2.size l ≤ 1048576
  promised : w.Promised.length ≤ 3
  txns : w.Txns.length ≤ 6 ∧ ∀ t ∈ w.Txns, C7 TOp.size t.Ops ≤ 1048576 ∧ C7 K8.size t.Got ≤ 1048576
  looks : w.Looks.length ≤ 4 ∧ ∀ l ∈ w.Looks, (∀ k ∈ l.Keys, k.length ≤ 12) ∧ C7 K8.size l.Got ≤ 1048576
theorem Cm4 (l : List Str) : At5 l = Be0 l := by
  unfold At5 Be0 g7;rw [show (l.all f6) = l.all n1 from by congr 1; funext s; exact AA7 s, Bool.and_comm]
theorem CT0 {l : List Str} (h : ∀ k ∈ l, k.length ≤ 12) : ∀ k ∈ l, k.length ≤ 4611686018427387904 := fun k hk => L8 (h k hk) F1
theorem Cy6 {α : Type} {l : List α} {i : Nat} {x y : α} (hx : l[i]? = some x) (hy : y ∈ l.take (i + 1)) : y ∈ l.take i ∨ y = x := by
  rw [T5, hx] at hy;rcases o5.1 hy with h | h
  · exact .inl h
  · exact .inr AO9
theorem Aw6 {α : Type} {P : α → Prop} {l : List α} {i : Nat} {x : α} (hx : l[i]? = some x) (h : ∀ y ∈ l.take i, P y) (hp : P x) : ∀ y ∈ l.take (i + 1), P y := fun y hy => by
  rcases Cy6 hx hy with h1 | rfl
  · exact h y h1
  · exact hp
theorem Ae4 {α : Type} {P : α → Prop} {l : List α} {i : Nat} (hi : l.length ≤ i) (h : ∀ y ∈ l.take i, P y) : ∀ y ∈ l, P y := by rwa [P8 hi] at h
theorem Aj6 {l : List K8} {ks : List Str} (hl : l.length ≤ ks.length) : AN0 l ks = true ↔ ∀ (i : Nat) (g : K8) (k : Str), l[i]? = some g → ks[i]? = some k → g.Key = k := by
  unfold AN0;rw [l5];constructor
  · intro h i g k hg hk
    have := h i (List.mem_range.2 (E9.1 hg).1);rw [hg, hk] at this;simpa using this
  · intro h i hi
    have hi := List.mem_range.1 hi;obtain ⟨g, hg⟩ := B4 hi;obtain ⟨k, hk⟩ := B4 (show i < ks.length by omega);rw [hg, hk];simpa using h i g k hg hk
def GWP (w : C9) : Prop := AJ0 w = true ∧ ((∀ g ∈ w.Groups, Z6 g = true ∧ g.Reps.length = 3) ∧ (∀ l ∈ w.Locks, AM9 l = true) ∧ ∀ p ∈ w.Promised, isTrue p = true) ∧ ((isTrue w.Now = true ∧ within w.Count 0 1000000 = true) ∧ w.Txns.length ≤ 6 ∧ w.Looks.length ≤ 4) ∧ (∀ c ∈ w.Clocks, n3 c = true) ∧ (∀ t ∈ w.Txns, AT7 w t = true) ∧ ∀ l ∈ w.Looks, s5 w l = true
theorem Aj7 {w : C9} : U7 w = true ↔ GWP w := by
  unfold U7 GWP n3;simp only [E8, l5, H1, j0];constructor
  · rintro ⟨⟨⟨⟨⟨⟨⟨⟨⟨h1, h2⟩, h3⟩, h4⟩, h5⟩, h6⟩, h7, h8⟩, h9⟩, h10⟩, h11⟩
    exact ⟨h1, ⟨fun g hg => ⟨(h2 g hg).1, by have := (h2 g hg).2; omega⟩, h3, h4⟩, ⟨⟨h5, h6⟩, by omega, by omega⟩, h9, h10, h11⟩
  · rintro ⟨h1, ⟨h2, h3, h4⟩, ⟨⟨h5, h6⟩, h7, h8⟩, h9, h10, h11⟩
    exact ⟨⟨⟨⟨⟨⟨⟨⟨⟨h1, fun g hg => ⟨(h2 g hg).1, by have := (h2 g hg).2; omega⟩⟩, h3⟩, h4⟩, h5⟩, h6⟩, by omega, by omega⟩, h9⟩, h10⟩, h11⟩
theorem BU3 {w : C9} (h : ¬ GWP w) : U7 w = false := by rw [← Bool.not_eq_true, Aj7]; exact h
theorem BU4 {α : Type} {p q : α → Bool} (hq : ∀ x, q x = !p x) (l : List α) : (!l.any q) = l.all p := by
  rw [List.not_any_eq_all_not]; congr 1; funext x; rw [hq, Bool.not_not]
theorem subR_has {rows : List A4} (ha : adj N3 rows = true) {k : Str} (h : Ay2 rows k = true) : rows[AT3 rows k]? = some (AP3 rows k) := by
  have h1 := Bm3 ha k;rw [D0 h] at h1;unfold Ay2 Ae6 at h
  cases h2 : rows[AT3 rows k]? with
  | none => simp [h2] at h
  | some w =>
    rw [h2] at h1;unfold AP3;rw [show lookW rows k = some w from h1]; rfl
theorem subR_not {rows : List A4} (ha : adj N3 rows = true) {k : Str} (h : Ay2 rows k = false) : AP3 rows k = Ab5 k := by
  have h1 := Bm3 ha k;rw [C6 (by rw [h]; decide)] at h1;unfold AP3;rw [show lookW rows k = none from h1]; rfl
end Go.M
namespace Go.PQ
open Go.Proofs
open Go Go.AV Go.M
attribute [local irreducible] OpW OpA OpS AWP J6 L3 K7 OpE K2 H9 K6 Le Ev F7 M7 f8 Int.tmod Int.tdiv IntKind.wrap T7
theorem Bw8 {own : List Go.AV.Own} {w : C9} {X : WX} {T : List (Value × Value)} {L : List Value} (hT : T.length = w.Txns.length) (hL : L.length = w.Looks.length) (h : ∀ o ∈ WA w X T L, o ∈ own) : AC1 own (WV w X) w.cs :=
  D5 I0 (D5 I0 (D5 (K0 (h _ (C2 (i := 0) rfl)) F6) (D5 I0 (D5 (K0 (h _ (C2 (i := 1) rfl)) F6) (D5 (K0 (h _ (C2 (i := 2) rfl)) F6) (D5 (K0 (h _ (C2 (i := 3) rfl)) F6)
    (D5 (K0 (h _ (C2 (i := 4) rfl)) (Al2 B2.lcM hT fun o ho => h o (by unfold WA; exact Q2 _ (Q2 _ (Q2 _ (Q2 _ (Q2 _ (Q2 _ (AF1 _ ho)))))))))
    (D5 (K0 (h _ (C2 (i := 5) rfl)) (Al2 B6.lcM hL fun o ho => h o (by unfold WA; exact Q2 _ (Q2 _ (Q2 _ (Q2 _ (Q2 _ (Q2 _ (r4 _ ho))))))))) d5))))))))
theorem CE8 (w : C9) (hw : WI w) : E1 129 [AV.agg w.cs] (AV.agg w.cs) :=
  L5 (Bc5 w hw) fun x hx => AK8 (Bw8 hx.1 hx.2 fun _ ho => ho)
end Go.PQ
namespace Go.PQ
open Go.Proofs
open Go Go.AV Go.M
attribute [local irreducible] OpW OpA OpS AWP J6 L3 K7 OpE K2 H9 K6 Le Ev F7 M7 f8 Int.tmod Int.tdiv IntKind.wrap T7
theorem Bc7 (l : List Str) (hs : ∀ k ∈ l, k.length ≤ 4611686018427387904) : E1 100 [strs l] (AV.bool (Be0 l)) := by
 refine B3 Tryz.func100 rfl Tryz.ntmps100 rfl ?_;refine l7 (t := 0) rfl fun hl => ?_;try simp only [A7] at hl
 refine R12 ?_;refine F2 [(0, _), (5, _), (6, _)] _ (fun (i : Nat) => i ≤ l.length ∧ (l.all n1 && adj Op.bytesLess l) = ((l.drop i).all n1 && adj Op.bytesLess (l.drop (i - 1)))) (fun i => []) (fun i => [(7, AV.int i)]) (fun i => l.length - i) (0) ?_ (G3 A8) ?_
 ·exact ⟨E2 _, rfl⟩
 intro i hinv;refine R5 ?_;refine A3 ?_ ?_
 ·intro h8;have k8 := C5 h8;have hlt : i < l.length := by omega
  obtain ⟨x, hx⟩ := B4 hlt;obtain ⟨y, hy⟩ := B4 (show i - 1 < l.length by omega);have hsx := hs x (C2 hx);refine R6 ?_;refine A1 rfl (AT8 rfl E3 I2 (A0 rfl) (A0 rfl) qz8 qz178) ?_;refine R7 ?_;refine A1 rfl (A5 rfl Tryz.call94 rfl (AR2 _ qz8) (A2 (A0 rfl) B0)) ?_;refine R8 ?_;refine s9 rfl rfl (X4 rfl rfl rfl) (fun hc => AT8 rfl E3 I2 (A9 rfl hc) (A9 rfl hc) (by have := r3 (Az2 hc); omega) qz97) ?_;refine R2 ?_;refine s9 rfl rfl (X4 rfl rfl rfl) (fun hc => BX2 rfl (A9 rfl hc) (A9 rfl hc)) ?_;refine R3 ?_;refine A3 ?_ ?_
  ·intro h27;have hfin : (l.all n1 && adj Op.bytesLess l) = false := by rw [hinv.2, I8 hx, p8]; cases hg : n1 x with | false => simp | true => (simp only [hg, Bool.not_true, Bool.false_or, E8, H1, i6] at h27; rw [Ad0 hx hy qz8 h27.2]; simp)
   refine R5 ?_;exact D6 rfl (A6 rfl qz144)
  intro h27;refine R5 ?_;refine G4 i (i + 1) ?_ ?_ (G3 A8)
  ·exact ⟨by omega, by rw [hinv.2, I8 hx, p8, Ac9 hx hy (fun h0 => by simp_all), show n1 x = true by simp_all, Bool.true_and]⟩
  omega
 intro h8;have k8 := B9 h8;have hge : l.length ≤ i := by omega
 refine R5 ?_;refine A1 rfl (A5 rfl Tryz.call24 rfl (P3 _ _ _) AJ2) ?_;refine R3 ?_;exact D6 rfl (A6 rfl qz144)
theorem Ae5 (cuts : List Str) (ps : List (List TOp)) (ls : List (List Str)) (h : NewOk cuts ps ls) : M1 126 [strs cuts, AV.list 1 (ps.map fun l => [AV.list 4 (l.map TOp.cs)]), AV.list 1 (ls.map fun l => [strs l])] [] (fun v : C9 => WI v ∧ WQ v) (fun _ => []) (fun v => AV.tup [AV.agg v.cs, AV.bool true]) := by
 have hcl := h.cuts.2.1;have hpl := h.ps.1;have hll := h.ls.1;have hwi := h.wi;obtain ⟨N, hN⟩ : ∃ N, cuts.length + 1 = N := ⟨_, rfl⟩;have hcb : ∀ k ∈ cuts, k.length ≤ 4611686018427387904 := fun k hk => L8 (h.cuts.2.2 k hk) F1;obtain ⟨P9, hP9⟩ : ∃ P9, ps.map (Cg1 N) = P9 := ⟨_, rfl⟩;obtain ⟨Q9, hQ9⟩ : ∃ Q9, Ak8 N ls ls.length = Q9 := ⟨_, rfl⟩;have hP9l : P9.length = ps.length := by rw [← hP9, A7]
 have hQ9l : Q9.length = ls.length := by rw [← hQ9, Bc6]
 refine C8 Tryz.func126 rfl Tryz.ntmps126 rfl ?_;refine R3 ?_;intro b6;refine R6 ?_;refine A1 rfl (A5 rfl Tryz.call51 rfl (Bc0 cuts hcb) J3) ?_;refine R17 ?_;refine A3 ?_ ?_
 ·intro h39
  (exfalso; simp only [h.cuts.1, A7] at h39; simp at h39; omega)
 intro h39;refine R9 ?_;refine F2 [(0, _), (1, _), (2, _), (6, _), (41, _), (42, _)] _ (fun (i : Nat) => i ≤ ps.length) (fun i => []) (fun i => [(43, AV.int i)]) (fun i => ps.length - i) (0) ?_ (G3 A8) ?_
 ·exact E2 _
 intro i hinv;refine R5 ?_;refine A3 ?_ ?_
 ·intro h44;have k44 := C5 h44;have hlt : i < ps.length := (by simpa using h44);obtain ⟨p, hp⟩ := B4 hlt;have hpk := h.ps.2 p (C2 hp);refine R5 ?_;refine A1 rfl (D3 rfl Tryz.underlying165 AV2 (A0 rfl) (A0 rfl) hp qz2) ?_;refine R6 ?_;refine A1 rfl (A5 rfl Tryz.call98 rfl (Bb9 p (by have h9 := y5 (f := TOp.size) (c := 36) (l := p) fun o ho => (An7 hpk.1.1 o ho).size; have h8 : p.length ≤ 8 := (by have h7 := hpk.1.1; unfold AE8 at h7; rw [E8, H1] at h7; have := h7.1; omega); have h6 : p.length * (36 + 1) ≤ 8 * 37 := t6 _ h8; omega)) (A2 (A0 rfl) B0)) ?_;refine R7 ?_;refine A3 ?_ ?_
  ·intro h54
   (exfalso; rw [show Aq5 p = true from by rw [← BT1]; exact hpk.1.1] at h54; simp only [A7] at h54; simp at h54; have h9 := hpk.2; rw [h54] at h9; simp at h9)
  intro h54;refine R5 ?_;refine G4 i (i + 1) ?_ ?_ (G3 A8)
  ·exact qz8
  omega
 intro h44;have k44 := B9 h44;refine R9 ?_;refine F2 [(0, _), (1, _), (2, _), (6, _), (57, _), (58, _)] _ (fun (j : Nat) => j ≤ ls.length) (fun j => []) (fun j => [(59, AV.int j)]) (fun j => ls.length - j) (0) ?_ (G3 A8) ?_
 ·exact E2 _
 intro j hinv;refine R5 ?_;refine A3 ?_ ?_
 ·intro h60;have k60 := C5 h60;have hlt2 : j < ls.length := (by simpa using h60);obtain ⟨l, hl⟩ := B4 hlt2;have hlk := h.ls.2 l (C2 hl);refine R5 ?_;refine A1 rfl (D3 rfl AG6 z7 (A0 rfl) (A0 rfl) hl qz2) ?_;refine R6 ?_;refine A1 rfl (A5 rfl Tryz.call100 rfl (Bc7 l (fun k hk => by have := (AR1 (hlk.2.2 k hk)).2; omega)) J3) ?_;refine R2 ?_;refine A3 ?_ ?_
  ·intro h65
   (exfalso; rw [l16K_of hlk.1 hlk.2.2 hlk.2.1] at h65; cases h65)
  intro h65;refine R5 ?_;refine G4 j (j + 1) ?_ ?_ (G3 A8)
  ·exact qz8
  omega
 intro h60;have k60 := B9 h60;refine R5 ?_;refine A1 rfl (w_natc (a := ((cuts.map fun s => [AV.str s]).length : Int) + 1) N (BX1 rfl (A0 rfl) L1 (by rw [A7]; omega)) (by rw [A7]; omega)) ?_;refine R3 ?_;refine awp_cut4 [(1, _), (2, _), (6, _), (12, _)] A8 (fun (b82 : Nat) (cv : Value) (lv : Value) (pv : Value) => [.box b82 197 [AV.int 0, AV.int 0, AV.is cv, strs cuts, AV.nils, AV.is lv, AV.is pv, AV.nils, AV.nils], .box b6 32 (List.map j3 (Value.agg #[Value.int IntKind.i64 0, Value.int IntKind.i64 0, E4, E4, E4, E4, E4, E4, E4]).cells.toList), .arr cv 78 1 (List.replicate (3 * N) [AV.int 0]), .arr lv 97 1 (List.replicate N [AV.nils]), .arr pv 3 1 (List.replicate N [AV.int 0])]) (fun (b82 : Nat) (cv : Value) (lv : Value) (pv : Value) => [(13, AV.ptr b82 0)]) ?_ ?_
 ·skip
  refine Bm1 [] 11 (.pure 0 (.pure 1 (.pure 3 (.pure 4 (.pure 5 (.pure 7 (.e3 2 (.e2 6 (.e1 8 (.pure 9 (.pure 10 .nil))) 8 (.e1 6 (.pure 9 (.pure 10 .nil)))) 6 (.e2 2 (.e1 8 (.pure 9 (.pure 10 .nil))) 8 (.e1 2 (.pure 9 (.pure 10 .nil)))) 8 (.e2 2 (.e1 6 (.pure 9 (.pure 10 .nil))) 6 (.e1 2 (.pure 9 (.pure 10 .nil))))))))))) D4 D4 rfl CV8 ?_;refine R1 ?_;refine AR0 rfl rfl rfl (fun ext => w_natc (a := 3 * ((N : Nat) : Int)) (3 * N) (Ah8 rfl L1 (A0 rfl) qz8) qz8) ?_;refine R1 ?_;refine AR0 rfl rfl rfl (fun ext => A5 rfl Tryz.call151 rfl (y6 _ qz8) (A2 (A0 rfl) B0)) ?_;refine R2 ?_;refine bt3_e3 ?_ ?_ ?_
  ·refine I6 rfl rfl rfl (T2 1 (fun _ => rfl) (s6 (by' := 8) rfl S0 Tryz.type78 rfl rfl rfl rfl rfl rfl (A0 rfl) (A0 rfl) qz2 qz2)) (fun a _ => qz4) ?_;intro v73 hone_v73;have one_v73 := hone_v73.2;refine CW1 ?_ ?_
   ·refine I6 rfl rfl rfl (T2 2 (fun _ => rfl) (s6 (by' := 24) rfl T1 Tryz.type97 rfl rfl rfl rfl rfl rfl (A0 rfl) (A0 rfl) qz2 qz2)) (fun a _ => qz4) ?_;intro v77 hone_v77;have one_v77 := hone_v77.2;refine R1 ?_;refine I6 rfl rfl rfl (T2 3 (fun _ => rfl) (s6 (by' := 8) rfl G5 Tryz.type3 rfl rfl rfl rfl rfl rfl (A0 rfl) (A0 rfl) qz2 qz2)) (fun a _ => qz4) ?_;intro v79 hone_v79;have one_v79 := hone_v79.2;refine AR0 rfl rfl rfl (fun ext => Y6 (places := #[(0, 1), (1, 1), (2, 1), (3, 1), (4, 1), (5, 1), (6, 1), (7, 1), (8, 1)]) rfl V6 Tryz.zeroValue32 (fun w => by kernel_rfl) rfl (D8 (A0 rfl) (K4 one_v73) (D8 (A0 rfl) (g8 _ _) (D8 (A0 rfl) (K4 one_v77) (D8 (A0 rfl) (K4 one_v79) U1)))) rfl) ?_;refine R3 ?_;intro b82;refine R2 ?_;exact ⟨b82, v73, v77, v79, Le.trans (B8 [0, 0, 0, 0, 0] rfl) (E5 0 C1 A8)⟩
   refine I6 rfl rfl rfl (T2 2 (fun _ => rfl) (s6 (by' := 8) rfl G5 Tryz.type3 rfl rfl rfl rfl rfl rfl (A0 rfl) (A0 rfl) qz2 qz2)) (fun a _ => qz4) ?_;intro v79 hone_v79;have one_v79 := hone_v79.2;refine R1 ?_;refine I6 rfl rfl rfl (T2 3 (fun _ => rfl) (s6 (by' := 24) rfl T1 Tryz.type97 rfl rfl rfl rfl rfl rfl (A0 rfl) (A0 rfl) qz2 qz2)) (fun a _ => qz4) ?_;intro v77 hone_v77;have one_v77 := hone_v77.2;refine AR0 rfl rfl rfl (fun ext => Y6 (places := #[(0, 1), (1, 1), (2, 1), (3, 1), (4, 1), (5, 1), (6, 1), (7, 1), (8, 1)]) rfl V6 Tryz.zeroValue32 (fun w => by kernel_rfl) rfl (D8 (A0 rfl) (K4 one_v73) (D8 (A0 rfl) (g8 _ _) (D8 (A0 rfl) (K4 one_v77) (D8 (A0 rfl) (K4 one_v79) U1)))) rfl) ?_;refine R3 ?_;intro b82;refine R2 ?_;exact ⟨b82, v73, v77, v79, Le.trans (B8 [0, 0, 0, 1, 0] rfl) (E5 0 C1 A8)⟩
  ·refine I6 rfl rfl rfl (T2 1 (fun _ => rfl) (s6 (by' := 24) rfl T1 Tryz.type97 rfl rfl rfl rfl rfl rfl (A0 rfl) (A0 rfl) qz2 qz2)) (fun a _ => qz4) ?_;intro v77 hone_v77;have one_v77 := hone_v77.2;refine CW1 ?_ ?_
   ·refine I6 rfl rfl rfl (T2 2 (fun _ => rfl) (s6 (by' := 8) rfl S0 Tryz.type78 rfl rfl rfl rfl rfl rfl (A0 rfl) (A0 rfl) qz2 qz2)) (fun a _ => qz4) ?_;intro v73 hone_v73;have one_v73 := hone_v73.2;refine R1 ?_;refine I6 rfl rfl rfl (T2 3 (fun _ => rfl) (s6 (by' := 8) rfl G5 Tryz.type3 rfl rfl rfl rfl rfl rfl (A0 rfl) (A0 rfl) qz2 qz2)) (fun a _ => qz4) ?_;intro v79 hone_v79;have one_v79 := hone_v79.2;refine AR0 rfl rfl rfl (fun ext => Y6 (places := #[(0, 1), (1, 1), (2, 1), (3, 1), (4, 1), (5, 1), (6, 1), (7, 1), (8, 1)]) rfl V6 Tryz.zeroValue32 (fun w => by kernel_rfl) rfl (D8 (A0 rfl) (K4 one_v73) (D8 (A0 rfl) (g8 _ _) (D8 (A0 rfl) (K4 one_v77) (D8 (A0 rfl) (K4 one_v79) U1)))) rfl) ?_;refine R3 ?_;intro b82;refine R2 ?_;exact ⟨b82, v73, v77, v79, Le.trans (B8 [0, 0, 1, 0, 0] rfl) (E5 0 C1 A8)⟩
   refine I6 rfl rfl rfl (T2 2 (fun _ => rfl) (s6 (by' := 8) rfl G5 Tryz.type3 rfl rfl rfl rfl rfl rfl (A0 rfl) (A0 rfl) qz2 qz2)) (fun a _ => qz4) ?_;intro v79 hone_v79;have one_v79 := hone_v79.2;refine R1 ?_;refine I6 rfl rfl rfl (T2 3 (fun _ => rfl) (s6 (by' := 8) rfl S0 Tryz.type78 rfl rfl rfl rfl rfl rfl (A0 rfl) (A0 rfl) qz2 qz2)) (fun a _ => qz4) ?_;intro v73 hone_v73;have one_v73 := hone_v73.2;refine AR0 rfl rfl rfl (fun ext => Y6 (places := #[(0, 1), (1, 1), (2, 1), (3, 1), (4, 1), (5, 1), (6, 1), (7, 1), (8, 1)]) rfl V6 Tryz.zeroValue32 (fun w => by kernel_rfl) rfl (D8 (A0 rfl) (K4 one_v73) (D8 (A0 rfl) (g8 _ _) (D8 (A0 rfl) (K4 one_v77) (D8 (A0 rfl) (K4 one_v79) U1)))) rfl) ?_;refine R3 ?_;intro b82;refine R2 ?_;exact ⟨b82, v73, v77, v79, Le.trans (B8 [0, 0, 2, 0, 0] rfl) (E5 0 C1 A8)⟩
  refine I6 rfl rfl rfl (T2 1 (fun _ => rfl) (s6 (by' := 8) rfl G5 Tryz.type3 rfl rfl rfl rfl rfl rfl (A0 rfl) (A0 rfl) qz2 qz2)) (fun a _ => qz4) ?_;intro v79 hone_v79;have one_v79 := hone_v79.2;refine CW1 ?_ ?_
  ·refine I6 rfl rfl rfl (T2 2 (fun _ => rfl) (s6 (by' := 8) rfl S0 Tryz.type78 rfl rfl rfl rfl rfl rfl (A0 rfl) (A0 rfl) qz2 qz2)) (fun a _ => qz4) ?_;intro v73 hone_v73;have one_v73 := hone_v73.2;refine R1 ?_;refine I6 rfl rfl rfl (T2 3 (fun _ => rfl) (s6 (by' := 24) rfl T1 Tryz.type97 rfl rfl rfl rfl rfl rfl (A0 rfl) (A0 rfl) qz2 qz2)) (fun a _ => qz4) ?_;intro v77 hone_v77;have one_v77 := hone_v77.2;refine AR0 rfl rfl rfl (fun ext => Y6 (places := #[(0, 1), (1, 1), (2, 1), (3, 1), (4, 1), (5, 1), (6, 1), (7, 1), (8, 1)]) rfl V6 Tryz.zeroValue32 (fun w => by kernel_rfl) rfl (D8 (A0 rfl) (K4 one_v73) (D8 (A0 rfl) (g8 _ _) (D8 (A0 rfl) (K4 one_v77) (D8 (A0 rfl) (K4 one_v79) U1)))) rfl) ?_;refine R3 ?_;intro b82;refine R2 ?_;exact ⟨b82, v73, v77, v79, Le.trans (B8 [0, 0, 1, 1, 0] rfl) (E5 0 C1 A8)⟩
  refine I6 rfl rfl rfl (T2 2 (fun _ => rfl) (s6 (by' := 24) rfl T1 Tryz.type97 rfl rfl rfl rfl rfl rfl (A0 rfl) (A0 rfl) qz2 qz2)) (fun a _ => qz4) ?_;intro v77 hone_v77;have one_v77 := hone_v77.2;refine R1 ?_;refine I6 rfl rfl rfl (T2 3 (fun _ => rfl) (s6 (by' := 8) rfl S0 Tryz.type78 rfl rfl rfl rfl rfl rfl (A0 rfl) (A0 rfl) qz2 qz2)) (fun a _ => qz4) ?_;intro v73 hone_v73;have one_v73 := hone_v73.2;refine AR0 rfl rfl rfl (fun ext => Y6 (places := #[(0, 1), (1, 1), (2, 1), (3, 1), (4, 1), (5, 1), (6, 1), (7, 1), (8, 1)]) rfl V6 Tryz.zeroValue32 (fun w => by kernel_rfl) rfl (D8 (A0 rfl) (K4 one_v73) (D8 (A0 rfl) (g8 _ _) (D8 (A0 rfl) (K4 one_v77) (D8 (A0 rfl) (K4 one_v79) U1)))) rfl) ?_;refine R3 ?_;intro b82;refine R2 ?_;exact ⟨b82, v73, v77, v79, Le.trans (B8 [0, 0, 2, 1, 0] rfl) (E5 0 C1 A8)⟩
 intro b82 cv lv pv;refine R2 ?_;refine AWP.le (CW4 5 3 (.arr lv 97 1 ((List.replicate N ([] : List G2)).map fun l => [AV.list 3 (l.map G2.cs)])) rfl (⟨rfl, rfl, rfl, nilRows N⟩) U2) ?_;refine R4 ?_;refine d6 81 3 ?_;refine AWP.le (B8 [1, 0] rfl) ?_;refine J0 [(1, _), (2, _), (6, _), (12, _), (13, _)] _ (fun (i : Nat) (gv : Value) => i ≤ N) (fun i gv => [.box b82 197 [AV.int 0, AV.int 0, AV.is cv, strs cuts, AV.is gv, AV.is lv, AV.is pv, AV.nils, AV.nils], .arr gv 81 3 ((List.replicate i BJ3).map C4.cs)]) (fun i gv => [(14, AV.int i)]) (fun i gv => N - i) (0) (E4) ?_ (K1 C1 A8) ?_
 ·exact E2 _
 intro i gv hinv;refine R7 ?_;refine A3 ?_ ?_
 ·intro h85;have k85 := C5 h85;refine R5 ?_;refine A1 rfl (A5 rfl Tryz.call152 rfl (CP2 3) (A2 L1 B0)) ?_;refine R4 ?_;intro b15;refine R3 ?_;refine G0 AL5 ?_;refine AWP.le (B8 [1, 0] rfl) ?_;refine O8 _ [(0, false), (1, false), (2, false), (3, false), (4, false), (5, false), (6, false), (7, false), (8, true)] D4 D4 rfl (S3 2) ?_;refine R8 ?_;refine T4 rfl rfl rfl (L4 (by' := 40) 2 rfl G7 Tryz.type81 rfl rfl rfl rfl rfl rfl (A0 rfl) (A0 rfl) rfl (by rw [A7, AT9]; simp only [V8]; omega)) (fun a _ => qz4) ?_;intro v100_1 _;refine R4 ?_;refine O7 2 rfl fun one_v100_1 => ?_;refine N0 0 rfl rfl rfl (A0 rfl) (A0 rfl) (K4 one_v100_1) rfl Tryz.sizeOf26 rfl ?_;refine R1 ?_;refine G0 AL5 ?_;refine R5 ?_;refine G8 i gv (i + 1) (v100_1) ?_ ?_ (Le.trans (B8 [1, 0, 0] rfl) (E5 1 (by (rw [List.replicate_succ', X1]; rfl)) A8))
  ·exact qz8
  omega
 intro h85;have k85 := B9 h85;rw [show i = N by omega];refine R9 ?_;refine d6 102 10 ?_;refine AWP.le (B8 [1, 2, 2, 1, 1, 1, 0] rfl) ?_;refine W7 [(2, _), (6, _), (12, _), (13, _), (104, _), (105, _)] [] (fun (j : Nat) (tv : Value) (T : List (Value × Value)) => j ≤ ps.length ∧ T.length = j) (fun j tv T => [.box b82 197 [AV.int 0, AV.int 0, AV.is cv, strs cuts, AV.is gv, AV.is lv, AV.is pv, AV.is tv, AV.nils], .box b6 32 (List.map j3 (Value.agg #[Value.int IntKind.i64 0, Value.int IntKind.i64 0, E4, E4, E4, E4, E4, E4, E4]).cells.toList), .arr cv 78 1 (List.replicate (3 * N) [AV.int 0]), .arr gv 81 3 ((List.replicate N BJ3).map C4.cs), .arr lv 97 1 ((List.replicate N ([] : List G2)).map fun l => [AV.list 3 (l.map G2.cs)]), .arr pv 3 1 (List.replicate N [AV.int 0]), .arr tv 102 10 (J7 B2.ocs (P9.take j) T)] ++ (nin B2.ow (P9.take j) T)) (fun j tv T => [(106, AV.int j)]) (fun j tv T => ps.length - j) (0) (E4) ([]) ?_ (K1 C1 A8) ?_
 ·exact ⟨E2 _, rfl⟩
 intro j tv T hinv;refine G0 (Q6 _) ?_;refine R5 ?_;refine A3 ?_ ?_
 ·intro h107;have k107 := C5 h107;have hlt : j < ps.length := (by simpa using h107);obtain ⟨p, hp⟩ := B4 hlt;have ht : P9[j]? = some (Cg1 N p) := (by rw [← hP9, X2, hp]; rfl);have hpk := h.ps.2 p (C2 hp);have hp8 : p.length ≤ 8 := (by have h9 := hpk.1.1; unfold AE8 at h9; rw [E8, H1] at h9; have := h9.1; omega);refine R5 ?_;refine A1 rfl (D3 rfl Tryz.underlying165 AV2 (A0 rfl) (A0 rfl) hp qz2) ?_;refine R3 ?_;refine AWP.le (B8 [0] rfl) ?_;refine X5 _ 14 (.pure 0 (.pure 1 (.pure 2 (.pure 3 (.pure 4 (.pure 5 (.pure 7 (.pure 9 (.e2 6 (.e2 8 (.e1 10 (.pure 11 (.pure 12 (.e1 13 .nil)))) 10 (.e1 8 (.pure 11 (.pure 12 (.e1 13 .nil))))) 10 (.e1 6 (.e1 8 (.pure 11 (.pure 12 (.e1 13 .nil)))))))))))))) D4 D4 rfl (S3 1) ?_;refine R8 ?_;refine AL7 ?_ ?_
  ·refine I6 rfl rfl rfl (u7 7 <| o9 rfl V7 Y2) (fun a _ => qz4) ?_;intro v116 _;refine AL7 ?_ ?_
   ·refine I6 rfl rfl rfl (Ac8 [7] (fun _ => rfl) (fun _ => K0 (C2 (i := 0) rfl) F6) (fun _ => U2) (L4 (by' := 48) 7 rfl V7 Tryz.type183 rfl rfl rfl rfl rfl rfl (A0 rfl) (A0 rfl) rfl qz2)) (fun a _ => qz4) ?_;intro v118_2 _;refine R1 ?_;refine I6 rfl rfl rfl (T2 7 (fun _ => rfl) (u7 7 <| s6 (by' := 8) rfl G5 Tryz.type3 rfl rfl rfl rfl rfl rfl (A0 rfl) (A0 rfl) qz2 qz2)) (fun a _ => qz4) ?_;intro v120 hone_v120;have one_v120 := hone_v120.2;refine K9 rfl rfl rfl (fun ext => Y6 (places := #[(0, 1), (1, 1), (2, 1), (3, 1), (4, 1), (5, 1), (6, 1), (7, 1), (8, 1), (9, 1)]) rfl J4 Tryz.zeroValue102 (fun w => by kernel_rfl) rfl (D8 (A0 rfl) (g8 _ _) (D8 (A0 rfl) (K4 one_v120) (D8 L1 (W4 _ _) (D8 L1 (W4 _ _) U1)))) rfl) ?_;refine R2 ?_;refine I6 rfl rfl rfl (L4 (by' := 112) 6 rfl M9 Tryz.type102 rfl rfl rfl rfl rfl rfl (A0 rfl) (A0 rfl) rfl BP4) (fun a _ => qz4) ?_;intro v123_3 _;refine R4 ?_;refine O7 6 rfl fun one_v123_3 => ?_;refine N0 0 rfl rfl rfl (A0 rfl) (A0 rfl) (K4 one_v123_3) rfl AV6 rfl ?_;refine R1 ?_;refine G0 AL5 ?_;refine d6 145 3 ?_;refine AWP.le (B8 [1, 1, 1, 1, 1, 1, 1, 0, 0] rfl) ?_;refine AWP.le (S4 7 (t := nin B2.ow (P9.take (j + 1)) (T ++ [(E4, v120)])) ((As9 (b := [Go.AV.Own.arr (E4) 145 3 [], Go.AV.Own.arr v120 3 1 ((List.replicate N (0 : Int)).map fun n => [AV.int n])] ++ nin B2.ow (P9.take j) T) qz96 (AX6 (ow := B2.ow) (x := (E4, v120)) ht hinv.2)))) ?_;refine R4 ?_;refine S7 j tv T (j + 1) (v123_3) (T ++ [(E4, v120)]) ?_ ?_ (Le.trans (B8 [0, 0, 0, 0, 0, 0, 0] rfl) (K1 (Eq.trans qz126 (Q6 _).symm) A8))
    ·exact ⟨by omega, by rw [H3, hinv.2]; rfl⟩
    omega
   refine I6 rfl rfl rfl (T2 8 (fun _ => rfl) (u7 8 <| s6 (by' := 8) rfl G5 Tryz.type3 rfl rfl rfl rfl rfl rfl (A0 rfl) (A0 rfl) qz2 qz2)) (fun a _ => qz4) ?_;intro v120 hone_v120;have one_v120 := hone_v120.2;refine R1 ?_;refine I6 rfl rfl rfl (Ac8 [7] (fun _ => rfl) (fun _ => K0 (C2 (i := 0) rfl) F6) (fun _ => U2) (L4 (by' := 48) 7 rfl V7 Tryz.type183 rfl rfl rfl rfl rfl rfl (A0 rfl) (A0 rfl) rfl qz2)) (fun a _ => qz4) ?_;intro v118_4 _;refine K9 rfl rfl rfl (fun ext => Y6 (places := #[(0, 1), (1, 1), (2, 1), (3, 1), (4, 1), (5, 1), (6, 1), (7, 1), (8, 1), (9, 1)]) rfl J4 Tryz.zeroValue102 (fun w => by kernel_rfl) rfl (D8 (A0 rfl) (g8 _ _) (D8 (A0 rfl) (K4 one_v120) (D8 L1 (W4 _ _) (D8 L1 (W4 _ _) U1)))) rfl) ?_;refine R2 ?_;refine I6 rfl rfl rfl (L4 (by' := 112) 6 rfl M9 Tryz.type102 rfl rfl rfl rfl rfl rfl (A0 rfl) (A0 rfl) rfl BP4) (fun a _ => qz4) ?_;intro v123_5 _;refine R4 ?_;refine O7 6 rfl fun one_v123_5 => ?_;refine N0 0 rfl rfl rfl (A0 rfl) (A0 rfl) (K4 one_v123_5) rfl AV6 rfl ?_;refine R1 ?_;refine G0 AL5 ?_;refine d6 145 3 ?_;refine AWP.le (B8 [1, 1, 1, 1, 1, 1, 1, 0, 0] rfl) ?_;refine AWP.le (S4 7 (t := nin B2.ow (P9.take (j + 1)) (T ++ [(E4, v120)])) ((As9 (b := [Go.AV.Own.arr (E4) 145 3 [], Go.AV.Own.arr v120 3 1 ((List.replicate N (0 : Int)).map fun n => [AV.int n])] ++ nin B2.ow (P9.take j) T) qz96 (AX6 (ow := B2.ow) (x := (E4, v120)) ht hinv.2)))) ?_;refine R4 ?_;refine S7 j tv T (j + 1) (v123_5) (T ++ [(E4, v120)]) ?_ ?_ (Le.trans (B8 [0, 0, 0, 0, 0, 0, 0] rfl) (K1 (Eq.trans qz126 (Q6 _).symm) A8))
   ·exact ⟨by omega, by rw [H3, hinv.2]; rfl⟩
   omega
  refine I6 rfl rfl rfl (T2 7 (fun _ => rfl) (u7 7 <| s6 (by' := 8) rfl G5 Tryz.type3 rfl rfl rfl rfl rfl rfl (A0 rfl) (A0 rfl) qz2 qz2)) (fun a _ => qz4) ?_;intro v120 hone_v120;have one_v120 := hone_v120.2;refine R1 ?_;refine I6 rfl rfl rfl (u7 8 <| o9 rfl V7 Y2) (fun a _ => qz4) ?_;intro v116 _;refine R1 ?_;refine I6 rfl rfl rfl (Ac8 [8] (fun _ => rfl) (fun _ => K0 (C2 (i := 0) rfl) F6) (fun _ => U2) (L4 (by' := 48) 8 rfl V7 Tryz.type183 rfl rfl rfl rfl rfl rfl (A0 rfl) (A0 rfl) rfl qz2)) (fun a _ => qz4) ?_;intro v118_6 _;refine K9 rfl rfl rfl (fun ext => Y6 (places := #[(0, 1), (1, 1), (2, 1), (3, 1), (4, 1), (5, 1), (6, 1), (7, 1), (8, 1), (9, 1)]) rfl J4 Tryz.zeroValue102 (fun w => by kernel_rfl) rfl (D8 (A0 rfl) (g8 _ _) (D8 (A0 rfl) (K4 one_v120) (D8 L1 (W4 _ _) (D8 L1 (W4 _ _) U1)))) rfl) ?_;refine R2 ?_;refine I6 rfl rfl rfl (L4 (by' := 112) 6 rfl M9 Tryz.type102 rfl rfl rfl rfl rfl rfl (A0 rfl) (A0 rfl) rfl BP4) (fun a _ => qz4) ?_;intro v123_7 _;refine R4 ?_;refine O7 6 rfl fun one_v123_7 => ?_;refine N0 0 rfl rfl rfl (A0 rfl) (A0 rfl) (K4 one_v123_7) rfl AV6 rfl ?_;refine R1 ?_;refine G0 AL5 ?_;refine d6 145 3 ?_;refine AWP.le (B8 [1, 1, 1, 1, 1, 1, 1, 0, 0] rfl) ?_;refine AWP.le (S4 7 (t := nin B2.ow (P9.take (j + 1)) (T ++ [(E4, v120)])) ((As9 (b := [Go.AV.Own.arr (E4) 145 3 [], Go.AV.Own.arr v120 3 1 ((List.replicate N (0 : Int)).map fun n => [AV.int n])] ++ nin B2.ow (P9.take j) T) qz96 (AX6 (ow := B2.ow) (x := (E4, v120)) ht hinv.2)))) ?_;refine R4 ?_;refine S7 j tv T (j + 1) (v123_7) (T ++ [(E4, v120)]) ?_ ?_ (Le.trans (B8 [0, 0, 0, 0, 0, 0, 0] rfl) (K1 (Eq.trans qz126 (Q6 _).symm) A8))
  ·exact ⟨by omega, by rw [H3, hinv.2]; rfl⟩
  omega
 intro h107;have k107 := B9 h107;have hxT : T.length = ps.length := (by have h9 : ps.length ≤ j := (by simpa using h107); omega);rw [show P9.take j = P9 from P8 qz8];refine R9 ?_;refine d6 105 6 ?_;refine AWP.le (B8 [1, 1, 1, 1, 1, 1, 1, 0] rfl) ?_;refine W7 [(6, _), (12, _), (13, _), (128, _), (129, _)] [] (fun (m : Nat) (kv : Value) (L : List Value) => m ≤ ls.length ∧ L.length = m) (fun m kv L => [.box b82 197 [AV.int 0, AV.int 0, AV.is cv, strs cuts, AV.is gv, AV.is lv, AV.is pv, AV.is tv, AV.is kv], .box b6 32 (List.map j3 (Value.agg #[Value.int IntKind.i64 0, Value.int IntKind.i64 0, E4, E4, E4, E4, E4, E4, E4]).cells.toList), .arr cv 78 1 (List.replicate (3 * N) [AV.int 0]), .arr gv 81 3 ((List.replicate N BJ3).map C4.cs), .arr lv 97 1 ((List.replicate N ([] : List G2)).map fun l => [AV.list 3 (l.map G2.cs)]), .arr pv 3 1 (List.replicate N [AV.int 0]), .arr tv 102 10 (J7 B2.ocs P9 T), .arr kv 105 6 (J7 B6.ocs (Q9.take m) L)] ++ (nin B2.ow P9 T ++ nin B6.ow (Q9.take m) L)) (fun m kv L => [(130, AV.int m)]) (fun m kv L => ls.length - m) (0) (E4) ([]) ?_ (K1 (by (rw [show nin B6.ow (Q9.take 0) ([] : List Value) = [] from rfl, Q6 (nin B2.ow P9 T), Q6]; rfl)) A8) ?_
 ·exact ⟨E2 _, rfl⟩
 intro m kv L hinv;refine G0 (Q6 _) ?_;refine R5 ?_;refine A3 ?_ ?_
 ·intro h131;have k131 := C5 h131;have hltm : m < ls.length := (by simpa using h131);obtain ⟨l, hl⟩ := B4 hltm;have hq9 : Q9[m]? = some (BO8 N m l) := (by rw [← hQ9]; exact Cf1 hl);have hlk := h.ls.2 l (C2 hl);refine R6 ?_;refine A1 rfl (D3 rfl AG6 z7 (A0 rfl) (A0 rfl) hl qz2) ?_;refine R4 ?_;refine AWP.le (B8 [0] rfl) ?_;refine O8 _ [(0, false), (1, false), (2, false), (3, false), (4, false), (5, false), (6, false), (7, false), (8, false), (9, false), (10, false), (11, false), (12, false), (13, false), (14, true)] D4 D4 rfl (S3 1) ?_;refine R8 ?_;refine P4 rfl rfl rfl (fun ext => Ah8 rfl L1 (A0 rfl) qz2) ?_;refine P4 rfl rfl rfl (fun ext => BQ2 rfl (A0 rfl) (A0 rfl) qz2) ?_;refine R1 ?_;refine P4 rfl rfl rfl (fun ext => A5 rfl Tryz.call151 rfl (y6 _ qz8) (A2 (A0 rfl) B0)) ?_;refine R2 ?_;refine T4 rfl rfl rfl (L4 (by' := 80) 7 rfl AA0 Tryz.type105 rfl rfl rfl rfl rfl rfl (A0 rfl) (A0 rfl) rfl BP4) (fun a _ => qz4) ?_;intro v149_8 _;refine R4 ?_;refine O7 7 rfl fun one_v149_8 => ?_;refine N0 0 rfl rfl rfl (A0 rfl) (A0 rfl) (K4 one_v149_8) rfl Tryz.sizeOf30 rfl ?_;refine R1 ?_;refine G0 AL5 ?_;refine d6 145 3 ?_;refine AWP.le (B8 [1, 1, 1, 1, 1, 1, 1, 1, 0] rfl) ?_;refine AWP.le (S4 8 (t := nin B2.ow P9 T ++ nin B6.ow (Q9.take (m + 1)) (L ++ [E4])) (Bp1 (x := (E4)) hq9 hinv.2)) ?_;refine R4 ?_;refine S7 m kv L (m + 1) (v149_8) (L ++ [E4]) ?_ ?_ (Le.trans (B8 [0, 0, 0, 0, 0, 0, 0, 0] rfl) (K1 (Eq.trans (by (rw [← AQ8 (ocs := B6.ocs) (x := (E4)) hq9 hinv.2]; rfl)) (Q6 _).symm) A8))
  ·exact ⟨by omega, by rw [H3, hinv.2]; rfl⟩
  omega
 intro h131;have k131 := B9 h131;have hxL : L.length = ls.length := (by have h9 : ls.length ≤ m := (by simpa using h131); omega);rw [show Q9.take m = Q9 from P8 qz8];refine R7 ?_;refine AWP.le (B8 [0, 1, 1, 1, 1, 1, 1, 0] rfl) ?_;refine J0 [(6, _), (12, _), (13, _)] [] (fun (g : Nat) (v : C9) => g ≤ N ∧ WI v ∧ (v.Groups.length = N ∧ v.Count = 0) ∧ v.Txns = P9 ∧ v.Looks = Q9) (fun g v => [.box b82 197 [AV.int v.Now, AV.int v.Count, AV.is cv, strs v.Cuts, AV.is gv, AV.is lv, AV.is pv, AV.is tv, AV.is kv], .arr cv 78 1 (v.Clocks.map S9.cs), .arr gv 81 3 (v.Groups.map C4.cs), .arr lv 97 1 (v.Locks.map fun l => [AV.list 3 (l.map G2.cs)]), .arr pv 3 1 (v.Promised.map fun n => [AV.int n]), .arr tv 102 10 (J7 B2.ocs v.Txns T), .arr kv 105 6 (J7 B6.ocs v.Looks L), .box b6 32 (List.map j3 (Value.agg #[Value.int IntKind.i64 0, Value.int IntKind.i64 0, E4, E4, E4, E4, E4, E4, E4]).cells.toList)] ++ (nwZ v T L)) (fun g v => [(21, AV.int g)]) (fun g v => N - g) (0) (At7 cuts ps ls) ?_ (K1 (by (rw [Q6]; unfold At7; dsimp only; rw [hN, hP9, hQ9, BE4, BE4, BE4, BE4]; rfl)) A8) ?_
 ·exact ⟨E2 _, hwi, ⟨(by unfold At7; dsimp only; rw [AT9]; exact hN), rfl⟩, (by rw [← hP9, ← hN]; rfl), (by rw [← hQ9, ← hN]; rfl)⟩
 intro g v hinv;refine G0 (Q6 _) ?_;refine R7 ?_;refine A3 ?_ ?_
 ·intro h156;have k156 := C5 h156;refine R6 ?_;refine A1 rfl (Ah8 rfl L1 (A0 rfl) qz2) ?_;refine K3 [0, 0, 0, 0, 0, 0, 0] 1 7 (nwZ v T L) ([]) (fun zz => nwZ zz.1 T L) rfl rfl rfl rfl Tryz.call153 rfl rfl (show List.Perm (nwZ v T L) ((nwZ v T L) ++ ([])) from B7) (CM1 b82 v ⟨cv, gv, lv, pv, tv, kv⟩ T L (3 * (g : Int)) hinv.2.1 (by rw [hinv.2.2.1.1]; omega)) F0 (fun a => M0) ?_;intro x162 ok162;refine R6 ?_;refine G8 g v (g + 1) (x162.1) ?_ ?_ (K1 (Eq.trans C1 (Q6 _).symm) A8)
  ·exact ⟨by omega, ok162.1, ⟨ok162.2.1.groups.trans hinv.2.2.1.1, ok162.2.1.count.trans hinv.2.2.1.2⟩, ok162.2.2.1.trans hinv.2.2.2.1, ok162.2.2.2.trans hinv.2.2.2.2⟩
  omega
 intro h156;have k156 := B9 h156;refine R2 ?_;refine AWP.le (B8 [0, 6, 0, 0, 0, 0, 0, 0] rfl) ?_;refine AWP.le (CW4 2 0 (.box b82 197 v.cs) rfl (⟨rfl, rfl, Bw8 (w := v) (X := ⟨cv, gv, lv, pv, tv, kv⟩) (T := T) (L := L) (by rw [hinv.2.2.2.1, hxT, ← hP9, A7]) (by rw [hinv.2.2.2.2, hxL, ← hQ9, Bc6]) (fun _ ho => ho)⟩) U2) ?_;refine R5 ?_;refine A1 rfl (A5 rfl Tryz.call129 rfl (CE8 v hinv.2.1) J3) ?_;refine R4 ?_;exact I4 [] (v) (⟨hinv.2.1, newW_wq cuts ps ls v (by rw [hinv.2.2.2.1, ← hP9, ← hN]; rfl) (by rw [hinv.2.2.2.2, ← hQ9, ← hN]; rfl) hinv.2.2.1.2⟩) rfl C1 (g9 rfl F1 (I3 (F3 (ys := _) 1 rfl rfl U9 O2 rfl) X8))
end Go.PQ
namespace Go.PQ
open Go.Proofs
open Go Go.AV Go.M
attribute [local irreducible] OpW OpA OpS AWP J6 L3 K7 OpE K2 H9 K6 Le Ev F7 M7 f8 Int.tmod Int.tdiv IntKind.wrap T7
theorem Aj8 (w : C9) (n : Int) : E1 119 [AV.agg w.cs, AV.int n] (AV.bool (within n (-1) w.Count)) := by
  refine B3 Tryz.func119 rfl Tryz.ntmps119 rfl ?_;refine R3 ?_;intro b2;refine R7 ?_;refine A1 rfl (A5 rfl Tryz.call39 rfl (Y8 _ _ _) Ay8) ?_;refine R3 ?_;exact D6 rfl (A6 rfl qz9)
theorem Cm5 (w : C9) (n : Int) (hl : w.Clocks.length ≤ 9) : E1 121 [AV.agg w.cs, AV.int n] (AV.bool (within n 0 ((w.Clocks.length : Int) - 1))) := by
  refine B3 Tryz.func121 rfl Tryz.ntmps121 rfl ?_;refine R3 ?_;intro b2;refine R9 ?_;refine A1 rfl (A5 rfl Tryz.call39 rfl (Y8 _ _ _) Ay8) ?_;refine R3 ?_;exact D6 rfl (A6 rfl (by exact C3 AV.bool (by rw [A7])))
theorem CE9 (l : List TOp) (hs : C7 TOp.size l ≤ 1048576) : E1 115 [AV.list 4 (l.map TOp.cs)] (AV.bool (AE8 l && decide (0 < (l.length : Int)))) := by
  refine B3 Tryz.func115 rfl Tryz.ntmps115 rfl ?_;refine R11 ?_;refine L6 rfl (fun hc => A5 rfl Tryz.call143 rfl (CP9 _ W1) (A2 (A9 rfl hc) B0)) ?_;refine R4 ?_;exact D6 rfl (A6 rfl (by exact C3 AV.bool (by rw [A7, Bool.and_comm])))
theorem Bp2 (l : List Str) (hs : ∀ k ∈ l, k.length ≤ 12) : E1 122 [strs l] (AV.bool (At5 l)) := by
  have hk := CT0 hs;refine B3 Tryz.func122 rfl Tryz.ntmps122 rfl ?_;refine R8 ?_;refine A1 rfl (A5 rfl Tryz.call39 rfl (Y8 _ _ _) AJ2) ?_;refine R2 ?_;refine L6 rfl (fun hc => A5 rfl Tryz.call46 rfl (AV0 _ (by first | assumption | exact Bt1 AC4)) (A2 (A9 rfl hc) B0)) ?_;refine R4 ?_;exact D6 rfl (A6 rfl (by exact C3 AV.bool (by unfold At5; rw [A7])))
theorem Bp3 (n : Int) : E1 118 [AV.int n] (AV.bool (!within n 0 200)) := by
  refine B3 Tryz.func118 rfl Tryz.ntmps118 rfl ?_;refine R7 ?_;refine A1 rfl (A5 rfl Tryz.call39 rfl (Y8 _ _ _) AJ2) ?_;refine R4 ?_;exact D6 rfl (A6 rfl qz9)
theorem Bw9 (w : C9) (t : B2) (ho : C7 TOp.size t.Ops ≤ 1048576) (hg : C7 K8.size t.Got ≤ 1048576) : E1 71 [AV.agg w.cs, AV.agg t.cs] (AV.bool (AT7 w t)) := by
  have hg4 : C7 K8.size t.Got ≤ 4194304 := L8 hg F1;refine B3 Tryz.func71 rfl Tryz.ntmps71 rfl ?_;refine R3 ?_;intro b2;refine R1 ?_;intro b3;refine R6 ?_;refine A1 rfl (A5 rfl Tryz.call115 rfl (CE9 _ AC4) (A2 (A0 rfl) B0)) ?_;refine R3 ?_;refine L6 rfl (fun hc => A5 rfl Tryz.call116 rfl (Bj8 _ W1) (A2 (A9 rfl hc) B0)) ?_;refine R13 ?_;refine L6 rfl (fun hc => A5 rfl Tryz.call117 rfl (BS6 _ _ _ Ab8) (A2 (A9 rfl hc) (A2 (BB4 Tryz.call118 (fun n (_ : True) => Bp3 n)) B0))) ?_;refine R6 ?_;refine L6 rfl (fun hc => A5 rfl Tryz.call119 rfl (Aj8 _ _) (A2 (A9 rfl hc) (A2 (A9 rfl hc) B0))) ?_;refine R5 ?_;refine L6 rfl (fun hc => A5 rfl Tryz.call119 rfl (Aj8 _ _) (A2 (A9 rfl hc) (A2 (A9 rfl hc) B0))) ?_;refine R4 ?_;refine L6 rfl (fun hc => A5 rfl Tryz.call16 rfl (AZ9 _) (A2 (A9 rfl hc) B0)) ?_;refine R4 ?_;exact D6 rfl (A6 rfl (by exact C3 AV.bool (by unfold AT7; rw [BU4 (p := fun n => within n 0 200) (fun _ => rfl), A7, A7])))
theorem Cm6 (w : C9) (t : B2) (ho : C7 TOp.size t.Ops ≤ 1048576) (hg : C7 K8.size t.Got ≤ 1048576) : E1 56 [AV.agg w.cs, AV.agg t.cs] (AV.bool (AT7 w t)) := by
  have hg4 : C7 K8.size t.Got ≤ 4194304 := L8 hg F1;refine B3 Tryz.func56 rfl Tryz.ntmps56 rfl ?_;refine R3 ?_;intro b2;refine R1 ?_;intro b3;refine R6 ?_;refine A1 rfl (A5 rfl Tryz.call98 rfl (Bb9 t.Ops ho) J3) ?_;refine R9 ?_;refine L6 rfl (fun hc => A5 rfl Tryz.call99 rfl (Bj9 _ W1) (A2 (A9 rfl hc) B0)) ?_;refine R13 ?_;refine L6 rfl (fun hc => A5 rfl Tryz.call52 rfl (Bv5 _ _ _) (A2 (A9 rfl hc) AO2)) ?_;refine R6 ?_;refine L6 rfl (fun hc => A5 rfl Tryz.call24 rfl (P3 _ _ _) (A2 (A9 rfl hc) (A2 L1 (A2 (A9 rfl hc) B0)))) ?_;refine R6 ?_;refine L6 rfl (fun hc => A5 rfl Tryz.call24 rfl (P3 _ _ _) (A2 (A9 rfl hc) (A2 L1 (A2 (A9 rfl hc) B0)))) ?_;refine R4 ?_;refine L6 rfl (fun hc => A5 rfl Tryz.call25 rfl (AT1 _) (A2 (A9 rfl hc) B0)) ?_;refine R4 ?_;exact D6 rfl (A6 rfl (by exact C3 AV.bool (by unfold AT7; rw [BT1, A7, A7, A7])))
theorem Bp4 (w : C9) (l : B6) (hc : w.Clocks.length ≤ 9) (hk : ∀ k ∈ l.Keys, k.length ≤ 12) (hg : C7 K8.size l.Got ≤ 1048576) : E1 74 [AV.agg w.cs, AV.agg l.cs] (AV.bool (s5 w l)) := by
 have hg4 : C7 K8.size l.Got ≤ 4194304 := L8 hg F1;have hgn := L9 (f := K8.size) (l := l.Got);refine B3 Tryz.func74 rfl Tryz.ntmps74 rfl ?_;refine R3 ?_;intro b2;refine R1 ?_;intro b3;refine R8 ?_;refine A1 rfl (A5 rfl Tryz.call121 rfl (Cm5 _ _ AC4) (A2 (A0 rfl) (A2 (A0 rfl) B0))) ?_;refine R4 ?_;refine Q7 rfl (fun hc => A5 rfl Tryz.call122 rfl (Bp2 _ AC4) (A2 (A9 rfl hc) B0)) ?_;refine R14 ?_;refine Q7 rfl (fun hc => A5 rfl Tryz.call116 rfl (Bj8 _ W1) (A2 (A9 rfl hc) B0)) ?_;refine R3 ?_;refine A3 ?_ ?_
 ·intro h32;have he : s5 w l = false := (by unfold s5; simp only [A7] at h32; cases h1 : within l.Node 0 ((w.Clocks.length : Int) - 1) <;> cases h2 : At5 l.Keys <;> cases h3 : AW2 l.Got <;> by_cases h4 : (l.Got.length : Int) ≤ (l.Keys.length : Int) <;> simp_all <;> omega);rw [he];refine R5 ?_;exact D6 rfl (A6 rfl C1)
 intro h32;have hle : l.Got.length ≤ l.Keys.length := (by simp only [A7, r5, w5] at h32; have h9 := h32.1.2; omega);have he : s5 w l = (((AN0 l.Got l.Keys && isTrue l.Time) && within l.Begin (-1) w.Count) && within l.End (-1) w.Count) := (by unfold s5; simp only [A7, r5, AD5] at h32; rw [h32.1.1.1, h32.1.1.2, h32.2, i7 (show (l.Got.length : Int) ≤ (l.Keys.length : Int) by omega)]; rfl);rw [he];refine R10 ?_;refine F2 [(2, _), (3, _), (34, _), (35, _)] _ (fun (i : Nat) => i ≤ l.Got.length ∧ ∀ (j : Nat) (g : K8) (k : Str), j < i → l.Got[j]? = some g → l.Keys[j]? = some k → g.Key = k) (fun i => []) (fun i => [(36, AV.int i)]) (fun i => l.Got.length - i) (0) ?_ (G3 A8) ?_
 ·exact ⟨E2 _, fun j _ _ h => absurd h (Nat.not_lt_zero j)⟩
 intro i hinv;refine R5 ?_;refine A3 ?_ ?_
 ·intro h37;have k37 := C5 h37;have hlt : i < l.Got.length := (by simpa using h37);obtain ⟨x, hx⟩ := B4 hlt;obtain ⟨y, hy⟩ := B4 (show i < l.Keys.length by omega);refine R6 ?_;refine A1 rfl (D3 rfl P0 d9 (A0 rfl) (A0 rfl) hx qz2) ?_;refine R2 ?_;intro b6;refine R10 ?_;refine C0 rfl rfl (D3 rfl E3 I2 (A0 rfl) (A0 rfl) hy qz2) ?_;refine R3 ?_;refine A3 ?_ ?_
  ·intro h48;have hm : AN0 l.Got l.Keys = false := (by rw [← Bool.not_eq_true, Aj6 hle]; intro h9; have h8 := h9 i x y hx hy; simp [h8] at h48);rw [hm];refine R5 ?_;exact D6 rfl (A6 rfl C1)
  intro h48;refine R5 ?_;refine G4 i (i + 1) ?_ ?_ (S5 1 A8)
  ·exact ⟨by omega, fun j g2 k2 hj e1 e2 => by rcases Nat.lt_or_eq_of_le (Nat.le_of_lt_succ hj) with h9 | rfl; exact hinv.2 j g2 k2 h9 e1 e2; rw [hx] at e1; rw [hy] at e2; injection e1 with e1; injection e2 with e2; subst e1; subst e2; simpa using h48⟩
  omega
 intro h37;have k37 := B9 h37;have hm : AN0 l.Got l.Keys = true := (Aj6 hle).2 (fun j g k e1 e2 => hinv.2 j g k (by have h9 := (E9.1 e1).1; omega) e1 e2);rw [hm, Bool.true_and];refine R5 ?_;refine A1 rfl (A5 rfl Tryz.call16 rfl (AZ9 _) J3) ?_;refine R4 ?_;refine L6 rfl (fun hc => A5 rfl Tryz.call119 rfl (Aj8 _ _) (A2 (A9 rfl hc) (A2 (A9 rfl hc) B0))) ?_;refine R5 ?_;refine L6 rfl (fun hc => A5 rfl Tryz.call119 rfl (Aj8 _ _) (A2 (A9 rfl hc) (A2 (A9 rfl hc) B0))) ?_;refine R4 ?_;exact D6 rfl (A6 rfl C1)
theorem Cf2 (w : C9) (l : B6) (hc : w.Clocks.length ≤ 9) (hk : ∀ k ∈ l.Keys, k.length ≤ 12) (hg : C7 K8.size l.Got ≤ 1048576) : E1 57 [AV.agg w.cs, AV.agg l.cs] (AV.bool (s5 w l)) := by
 have hg4 : C7 K8.size l.Got ≤ 4194304 := L8 hg F1;have hgn := L9 (f := K8.size) (l := l.Got);have hk2 := CT0 hk;have hlk := Cm4 l.Keys;refine B3 Tryz.func57 rfl Tryz.ntmps57 rfl ?_;refine R3 ?_;intro b2;refine R1 ?_;intro b3;refine R7 ?_;refine A1 rfl (A5 rfl Tryz.call100 rfl (Bc7 _ AC4) (A2 (A0 rfl) B0)) ?_;refine R13 ?_;refine Q7 rfl (fun hc => A5 rfl Tryz.call99 rfl (Bj9 _ W1) (A2 (A9 rfl hc) B0)) ?_;refine R3 ?_;refine A3 ?_ ?_
 ·intro h25;have he : s5 w l = false := (by unfold s5; rw [hlk]; simp only [A7] at h25; cases h1 : within l.Node 0 ((w.Clocks.length : Int) - 1) <;> cases h2 : Be0 l.Keys <;> cases h3 : AW2 l.Got <;> by_cases h4 : (l.Got.length : Int) ≤ (l.Keys.length : Int) <;> simp_all <;> omega);rw [he];refine R5 ?_;exact D6 rfl (A6 rfl qz165)
 intro h25;have hle : l.Got.length ≤ l.Keys.length := (by simp only [A7, r5, w5] at h25; have h9 := h25.1.2; omega);have he : s5 w l = (AN0 l.Got l.Keys && (((within l.Node 0 ((w.Clocks.length : Int) - 1) && isTrue l.Time) && within l.Begin (-1) w.Count) && within l.End (-1) w.Count)) := (by unfold s5; rw [hlk]; simp only [A7, r5, AD5] at h25; rw [h25.1.1, h25.2, i7 (show (l.Got.length : Int) ≤ (l.Keys.length : Int) by omega)]; cases within l.Node 0 ((w.Clocks.length : Int) - 1) <;> cases AN0 l.Got l.Keys <;> rfl);rw [he];refine R10 ?_;refine F2 [(2, _), (3, _), (27, _), (28, _)] _ (fun (i : Nat) => i ≤ l.Got.length ∧ ∀ (j : Nat) (g : K8) (k : Str), j < i → l.Got[j]? = some g → l.Keys[j]? = some k → g.Key = k) (fun i => []) (fun i => [(29, AV.int i)]) (fun i => l.Got.length - i) (0) ?_ (G3 A8) ?_
 ·exact ⟨E2 _, fun j _ _ h => absurd h (Nat.not_lt_zero j)⟩
 intro i hinv;refine R5 ?_;refine A3 ?_ ?_
 ·intro h30;have k30 := C5 h30;have hlt : i < l.Got.length := (by simpa using h30);obtain ⟨x, hx⟩ := B4 hlt;obtain ⟨y, hy⟩ := B4 (show i < l.Keys.length by omega);refine R6 ?_;refine A1 rfl (D3 rfl P0 d9 (A0 rfl) (A0 rfl) hx qz2) ?_;refine R2 ?_;intro b6;refine R10 ?_;refine C0 rfl rfl (D3 rfl E3 I2 (A0 rfl) (A0 rfl) hy qz2) ?_;refine R3 ?_;refine A3 ?_ ?_
  ·intro h41;have hm : AN0 l.Got l.Keys = false := (by rw [← Bool.not_eq_true, Aj6 hle]; intro h9; have h8 := h9 i x y hx hy; simp [h8] at h41);rw [hm];refine R5 ?_;exact D6 rfl (A6 rfl qz165)
  intro h41;refine R5 ?_;refine G4 i (i + 1) ?_ ?_ (S5 1 A8)
  ·exact ⟨by omega, fun j g2 k2 hj e1 e2 => by rcases Nat.lt_or_eq_of_le (Nat.le_of_lt_succ hj) with h9 | rfl; exact hinv.2 j g2 k2 h9 e1 e2; rw [hx] at e1; rw [hy] at e2; injection e1 with e1; injection e2 with e2; subst e1; subst e2; simpa using h41⟩
  omega
 intro h30;have k30 := B9 h30;have hm : AN0 l.Got l.Keys = true := (Aj6 hle).2 (fun j g k e1 e2 => hinv.2 j g k (by have h9 := (E9.1 e1).1; omega) e1 e2);rw [hm, Bool.true_and];refine R9 ?_;refine A1 rfl (A5 rfl Tryz.call24 rfl (P3 _ _ _) Ay8) ?_;refine R3 ?_;refine L6 rfl (fun hc => A5 rfl Tryz.call25 rfl (AT1 _) (A2 (A9 rfl hc) B0)) ?_;refine R6 ?_;refine L6 rfl (fun hc => A5 rfl Tryz.call24 rfl (P3 _ _ _) (A2 (A9 rfl hc) (A2 L1 (A2 (A9 rfl hc) B0)))) ?_;refine R6 ?_;refine L6 rfl (fun hc => A5 rfl Tryz.call24 rfl (P3 _ _ _) (A2 (A9 rfl hc) (A2 L1 (A2 (A9 rfl hc) B0)))) ?_;refine R4 ?_;exact D6 rfl (A6 rfl qz165)
theorem Bx0 (c : S9) : E1 67 [AV.agg c.cs] (AV.bool (!n3 c)) := by
  refine B3 Tryz.func67 rfl Tryz.ntmps67 rfl ?_;refine R3 ?_;intro b1;refine R5 ?_;refine A1 rfl (A5 rfl Tryz.call68 rfl (CE3 _) J3) ?_;refine R4 ?_;exact D6 rfl (A6 rfl qz9)
theorem Bx1 (w : C9) (t : B2) (h : C7 TOp.size t.Ops ≤ 1048576 ∧ C7 K8.size t.Got ≤ 1048576) : E1 70 [AV.agg t.cs, AV.eptr w.cs] (AV.bool (!AT7 w t)) := by
  refine B3 Tryz.func70 rfl Tryz.ntmps70 rfl ?_;refine R3 ?_;intro b2;refine R6 ?_;refine A1 rfl (A5 rfl Tryz.call71 rfl (Bw9 w t h.1 h.2) F0) ?_;refine R4 ?_;exact D6 rfl (A6 rfl qz9)
theorem Bx2 (w : C9) (l : B6) (hc : w.Clocks.length ≤ 9) (h : (∀ k ∈ l.Keys, k.length ≤ 12) ∧ C7 K8.size l.Got ≤ 1048576) : E1 73 [AV.agg l.cs, AV.eptr w.cs] (AV.bool (!s5 w l)) := by
  refine B3 Tryz.func73 rfl Tryz.ntmps73 rfl ?_;refine R3 ?_;intro b2;refine R6 ?_;refine A1 rfl (A5 rfl Tryz.call74 rfl (Bp4 w l hc h.1 h.2) F0) ?_;refine R4 ?_;exact D6 rfl (A6 rfl qz9)
theorem shape_of {w : C9} (h : AJ0 w = true) : w.Groups.length = w.Cuts.length + 1 ∧ w.Locks.length = w.Cuts.length + 1 ∧ w.Promised.length = w.Cuts.length + 1 := by
  unfold AJ0 at h;simp only [E8, H1, j0] at h;omega
theorem Bx3 (w : C9) (z : WZ w) : E1 28 [AV.agg w.cs] (AV.bool (U7 w)) := by
 have hcl := z.clocks;have hcu := z.cuts.1;have hck := CT0 z.cuts.2;have hm1 := z.txns.2;have hm2 := z.looks.2;refine B3 Tryz.func28 rfl Tryz.ntmps28 rfl ?_;refine R3 ?_;intro b1;refine R20 ?_;refine Q7 rfl (fun hc => A5 rfl Tryz.call63 rfl (CP6 w.Cuts hck) (A2 (A9 rfl hc) B0)) ?_;refine R28 ?_;refine Q7 rfl (fun hc => Ah8 rfl L1 (A9 rfl hc) qz6) ?_;refine R3 ?_;refine A3 ?_ ?_
 ·intro h48;have hs : AJ0 w = false := (by unfold AJ0; simp only [A7] at h48; rw [← Bool.not_eq_true]; intro h9; simp only [E8, H1, j0] at h9; obtain ⟨⟨⟨⟨⟨a1, a2⟩, a3⟩, a4⟩, a5⟩, a6⟩ := h9; simp only [a2, AA9, H1, BA6, Bool.not_true] at h48; simp at h48; omega);have he : U7 w = false := BU3 (fun h9 => by rw [h9.1] at hs; cases hs);rw [he];refine R5 ?_;exact D6 rfl (A6 rfl qz29)
 intro h48;have hs : AJ0 w = true := (by unfold AJ0; simp only [A7, r5, w5, bne_eq_false_iff_eq, AD5] at h48; obtain ⟨⟨⟨⟨⟨a1, a2⟩, a3⟩, a4⟩, a5⟩, a6⟩ := h48; rw [a2]; simp only [E8, H1, j0]; exact ⟨⟨⟨⟨⟨by omega, trivial⟩, by omega⟩, by omega⟩, by omega⟩, by omega⟩);have hs2 := shape_of hs;refine R10 ?_;refine F2 [(1, _), (50, _), (51, _)] _ (fun (i : Nat) => i ≤ w.Groups.length ∧ (∀ g ∈ w.Groups.take i, Z6 g = true ∧ g.Reps.length = 3) ∧ (∀ l ∈ w.Locks.take i, AM9 l = true) ∧ ∀ p ∈ w.Promised.take i, isTrue p = true) (fun i => []) (fun i => [(52, AV.int i)]) (fun i => w.Groups.length - i) (0) ?_ (G3 A8) ?_
 ·exact ⟨E2 _, fun _ h => Am3, fun _ h => Am3, fun _ h => Am3⟩
 intro i hinv;refine R5 ?_;refine A3 ?_ ?_
 ·intro h53;have k53 := C5 h53;have hlt : i < w.Groups.length := (by simpa using h53);obtain ⟨g, hg⟩ := B4 hlt;have hgm := C2 hg;have hgs := (z.groups.2 g hgm).1;obtain ⟨k, hk⟩ := B4 (show i < w.Locks.length by omega);have hkm := C2 hk;have hks : C7 G2.size k ≤ 4194304 := L8 (z.locks.2 k hkm) F1;obtain ⟨p, hp⟩ := B4 (show i < w.Promised.length by omega);have hpm := C2 hp;refine R6 ?_;refine A1 rfl (D3 rfl G7 E0 (A0 rfl) (A0 rfl) hg qz2) ?_;refine R2 ?_;intro b5;refine R6 ?_;refine A1 rfl (A5 rfl Tryz.call64 rfl (Bu4 _ W1) (A2 (A0 rfl) B0)) ?_;refine R11 ?_;refine Q7 rfl (fun hc => D3 rfl T1 m2 (A9 rfl hc) (A9 rfl hc) hk qz6) ?_;refine R1 ?_;refine Q7 rfl (fun hc => A5 rfl Tryz.call65 rfl (Bw0 _ W1) (A2 (A9 rfl hc) B0)) ?_;refine R6 ?_;refine Q7 rfl (fun hc => D3 rfl G5 E7 (A9 rfl hc) (A9 rfl hc) hp qz6) ?_;refine R1 ?_;refine Q7 rfl (fun hc => A5 rfl Tryz.call16 rfl (AZ9 _) (A2 (A9 rfl hc) B0)) ?_;refine R3 ?_;refine A3 ?_ ?_
  ·intro h83;have he : U7 w = false := BU3 (fun h9 => by simp only [A7] at h83; rw [(h9.2.1.1 g hgm).1, (h9.2.1.1 g hgm).2, h9.2.1.2.1 k hkm, h9.2.1.2.2 p hpm] at h83; revert h83; decide);rw [he];refine R5 ?_;exact D6 rfl (A6 rfl qz29)
  intro h83;simp only [A7, r5, AD5, bne_eq_false_iff_eq] at h83;refine R5 ?_;refine G4 i (i + 1) ?_ ?_ (S5 1 A8)
  ·exact ⟨by omega, Aw6 hg hinv.2.1 ⟨h83.1.1.1, by omega⟩, Aw6 hk hinv.2.2.1 h83.1.2, Aw6 hp hinv.2.2.2 h83.2⟩
  omega
 intro h53;have k53 := B9 h53;have hge : w.Groups.length ≤ i := (by simpa using h53);have hal : (∀ g ∈ w.Groups, Z6 g = true ∧ g.Reps.length = 3) ∧ (∀ l ∈ w.Locks, AM9 l = true) ∧ ∀ p ∈ w.Promised, isTrue p = true := ⟨Ae4 hge hinv.2.1, Ae4 qz8 hinv.2.2.1, Ae4 qz8 hinv.2.2.2⟩;refine R5 ?_;refine A1 rfl (A5 rfl Tryz.call16 rfl (AZ9 _) J3) ?_;refine R3 ?_;refine L6 rfl (fun hc => A5 rfl Tryz.call39 rfl (Y8 _ _ _) (A2 (A9 rfl hc) AO2)) ?_;refine R16 ?_;refine L6 rfl (fun hc => A5 rfl Tryz.call66 rfl (BK6 _ _ _ Ab8) (A2 (A9 rfl hc) (A2 (BB4 Tryz.call67 (fun c (_ : True) => Bx0 c)) B0))) ?_;refine R5 ?_;refine L6 rfl (fun hc => BG6 rfl rfl J3) ?_;refine L6 rfl (fun hc => l8 rfl Tryz.call69 rfl (Az8 _ _ _ Ab8) (U0 _) (P1 (evb (A9 rfl hc)) (P1 (AQ4 (Ar2 0 (A9 rfl hc) rfl) (Ac1 Tryz.call70 (fun t (h : C7 TOp.size t.Ops ≤ 1048576 ∧ C7 K8.size t.Got ≤ 1048576) => Bx1 _ t h))) m8))) ?_;refine R5 ?_;refine L6 rfl (fun hc => BG6 rfl rfl J3) ?_;refine L6 rfl (fun hc => l8 rfl Tryz.call72 rfl (Ax3 _ _ _ Ab8) (U0 _) (P1 (evb (A9 rfl hc)) (P1 (AQ4 (Ar2 0 (A9 rfl hc) rfl) (Ac1 Tryz.call73 (fun l (h : (∀ k ∈ l.Keys, k.length ≤ 12) ∧ C7 K8.size l.Got ≤ 1048576) => Bx2 _ l hcl h))) m8))) ?_;refine R5 ?_;exact D6 rfl (A6 rfl qz29)
theorem CN1 (l : List Int) : (l.all fun g => within g 0 100000) = true ↔ ∀ p ∈ l, isTrue p = true := by rw [l5]; exact Iff.rfl
theorem Bc8 (w : C9) (z : WZ w) : E1 23 [AV.agg w.cs] (AV.bool (U7 w)) := by
 have hcl := z.clocks;have hcu := z.cuts.1;have hck := CT0 z.cuts.2;have htl := z.txns.1;have hll := z.looks.1;refine B3 Tryz.func23 rfl Tryz.ntmps23 rfl ?_;refine R3 ?_;intro b1;refine R15 ?_;refine A1 rfl (A5 rfl Tryz.call51 rfl (Bc0 w.Cuts hck) J3) ?_;refine R17 ?_;refine Q7 rfl (fun hc => Ah8 rfl L1 (A9 rfl hc) qz6) ?_;refine R19 ?_;refine Q7 rfl (fun hc => A5 rfl Tryz.call52 rfl (Bv5 _ _ _) (A2 (A9 rfl hc) AO2)) ?_;refine R3 ?_;refine A3 ?_ ?_
 ·intro h58;have he : U7 w = false := BU3 (fun h9 => by simp only [A7] at h58; have hs := h9.1; unfold AJ0 at hs; simp only [E8, H1, j0] at hs; obtain ⟨⟨⟨⟨⟨a1, a2⟩, a3⟩, a4⟩, a5⟩, a6⟩ := hs; rw [a2, (CN1 _).2 h9.2.1.2.2] at h58; simp at h58; omega);rw [he];refine R5 ?_;exact D6 rfl (A6 rfl CB2)
 intro h58;simp only [A7, r5, w5, bne_eq_false_iff_eq, AD5] at h58;have hs : AJ0 w = true := (by unfold AJ0; obtain ⟨⟨⟨⟨⟨⟨a1, a2⟩, a3⟩, a4⟩, a5⟩, a6⟩, a7⟩ := h58; rw [a1]; simp only [E8, H1, j0]; exact ⟨⟨⟨⟨⟨by omega, trivial⟩, by omega⟩, by omega⟩, by omega⟩, by omega⟩);have hpr := (CN1 _).1 h58.2;refine R10 ?_;refine F2 [(1, _), (60, _), (61, _)] _ (fun (i : Nat) => i ≤ w.Groups.length ∧ (∀ g ∈ w.Groups.take i, Z6 g = true ∧ g.Reps.length = 3) ∧ (∀ l ∈ w.Locks.take i, AM9 l = true)) (fun i => []) (fun i => [(62, AV.int i)]) (fun i => w.Groups.length - i) (0) ?_ (G3 A8) ?_
 ·exact ⟨E2 _, fun _ h => Am3, fun _ h => Am3⟩
 intro i hinv;refine R5 ?_;refine A3 ?_ ?_
 ·intro h63;have k63 := C5 h63;have hlt : i < w.Groups.length := (by simpa using h63);obtain ⟨g, hg⟩ := B4 hlt;have hgm := C2 hg;have hgs := (z.groups.2 g hgm).1;obtain ⟨k, hk⟩ := B4 (show i < w.Locks.length by omega);have hkm := C2 hk;have hks : C7 G2.size k ≤ 4194304 := L8 (z.locks.2 k hkm) F1;refine R6 ?_;refine A1 rfl (D3 rfl G7 E0 (A0 rfl) (A0 rfl) hg qz2) ?_;refine R2 ?_;intro b5;refine R6 ?_;refine A1 rfl (A5 rfl Tryz.call53 rfl (AR4 _ W1) (A2 (A0 rfl) B0)) ?_;refine R11 ?_;refine Q7 rfl (fun hc => D3 rfl T1 m2 (A9 rfl hc) (A9 rfl hc) hk qz6) ?_;refine R1 ?_;refine Q7 rfl (fun hc => A5 rfl Tryz.call54 rfl (CQ1 _ W1) (A2 (A9 rfl hc) B0)) ?_;refine R3 ?_;refine A3 ?_ ?_
  ·intro h84;have he : U7 w = false := BU3 (fun h9 => by simp only [A7] at h84; rw [(h9.2.1.1 g hgm).1, (h9.2.1.1 g hgm).2, h9.2.1.2.1 k hkm] at h84; revert h84; decide);rw [he];refine R5 ?_;exact D6 rfl (A6 rfl CB2)
  intro h84;simp only [A7, r5, AD5, bne_eq_false_iff_eq] at h84;refine R5 ?_;refine G4 i (i + 1) ?_ ?_ (S5 1 A8)
  ·exact ⟨by omega, Aw6 hg hinv.2.1 ⟨h84.1.1, by omega⟩, Aw6 hk hinv.2.2 h84.2⟩
  omega
 intro h63;have k63 := B9 h63;have hge : w.Groups.length ≤ i := (by simpa using h63);have hal : (∀ g ∈ w.Groups, Z6 g = true ∧ g.Reps.length = 3) ∧ (∀ l ∈ w.Locks, AM9 l = true) := ⟨Ae4 hge hinv.2.1, Ae4 qz8 hinv.2.2⟩;refine R10 ?_;refine F2 [(1, _), (87, _), (88, _)] _ (fun (i : Nat) => i ≤ w.Clocks.length ∧ ∀ c ∈ w.Clocks.take i, n3 c = true) (fun i => []) (fun i => [(89, AV.int i)]) (fun i => w.Clocks.length - i) (0) ?_ (G3 A8) ?_
 ·exact ⟨E2 _, fun _ h => Am3⟩
 intro i hinv;refine R5 ?_;refine A3 ?_ ?_
 ·intro h90;have k90 := C5 h90;have hlt : i < w.Clocks.length := (by simpa using h90);obtain ⟨c, hc⟩ := B4 hlt;refine R5 ?_;refine A1 rfl (D3 rfl S0 y9 (A0 rfl) (A0 rfl) hc qz2) ?_;refine R2 ?_;intro b7;refine R5 ?_;refine A1 rfl (A5 rfl Tryz.call55 rfl (Ce4 _) J3) ?_;refine R2 ?_;refine A3 ?_ ?_
  ·intro h95;have he : U7 w = false := BU3 (fun h9 => by rw [h9.2.2.2.1 c (C2 hc)] at h95; cases h95);rw [he];refine R5 ?_;exact D6 rfl (A6 rfl CB2)
  intro h95;refine R5 ?_;refine G4 i (i + 1) ?_ ?_ (S5 1 A8)
  ·exact ⟨by omega, Aw6 hc hinv.2 (by simpa using h95)⟩
  omega
 intro h90;have k90 := B9 h90;have hcs := Ae4 (show w.Clocks.length ≤ i by simpa using h90) hinv.2;refine R10 ?_;refine F2 [(1, _), (98, _), (99, _)] _ (fun (i : Nat) => i ≤ w.Txns.length ∧ ∀ t ∈ w.Txns.take i, AT7 w t = true) (fun i => []) (fun i => [(100, AV.int i)]) (fun i => w.Txns.length - i) (0) ?_ (G3 A8) ?_
 ·exact ⟨E2 _, fun _ h => Am3⟩
 intro i hinv;refine R5 ?_;refine A3 ?_ ?_
 ·intro h101;have k101 := C5 h101;have hlt : i < w.Txns.length := (by simpa using h101);obtain ⟨t, ht⟩ := B4 hlt;have htz := z.txns.2 t (C2 ht);have htz1 := htz.1;have htz2 := htz.2;refine R5 ?_;refine A1 rfl (D3 rfl M9 S6 (A0 rfl) (A0 rfl) ht qz2) ?_;refine R2 ?_;intro b9;refine R6 ?_;refine A1 rfl (A5 rfl Tryz.call56 rfl (Cm6 _ _ AC4 AC4) (A2 (A0 rfl) (A2 (A0 rfl) B0))) ?_;refine R2 ?_;refine A3 ?_ ?_
  ·intro h107;have he : U7 w = false := BU3 (fun h9 => by rw [h9.2.2.2.2.1 t (C2 ht)] at h107; cases h107);rw [he];refine R5 ?_;exact D6 rfl (A6 rfl CB2)
  intro h107;refine R5 ?_;refine G4 i (i + 1) ?_ ?_ (S5 1 A8)
  ·exact ⟨by omega, Aw6 ht hinv.2 (by simpa using h107)⟩
  omega
 intro h101;have k101 := B9 h101;have hts := Ae4 (show w.Txns.length ≤ i by simpa using h101) hinv.2;refine R10 ?_;refine F2 [(1, _), (110, _), (111, _)] _ (fun (i : Nat) => i ≤ w.Looks.length ∧ ∀ l ∈ w.Looks.take i, s5 w l = true) (fun i => []) (fun i => [(112, AV.int i)]) (fun i => w.Looks.length - i) (0) ?_ (G3 A8) ?_
 ·exact ⟨E2 _, fun _ h => Am3⟩
 intro i hinv;refine R5 ?_;refine A3 ?_ ?_
 ·intro h113;have k113 := C5 h113;have hlt : i < w.Looks.length := (by simpa using h113);obtain ⟨l, hl⟩ := B4 hlt;have hlz := z.looks.2 l (C2 hl);have hlz1 := hlz.1;have hlz2 := hlz.2;refine R5 ?_;refine A1 rfl (D3 rfl AA0 Tryz.sizeOf105 (A0 rfl) (A0 rfl) hl qz2) ?_;refine R2 ?_;intro b11;refine R6 ?_;refine A1 rfl (A5 rfl Tryz.call57 rfl (Cf2 _ _ AC4 AC4 AC4) (A2 (A0 rfl) (A2 (A0 rfl) B0))) ?_;refine R2 ?_;refine A3 ?_ ?_
  ·intro h119;have he : U7 w = false := BU3 (fun h9 => by rw [h9.2.2.2.2.2 l (C2 hl)] at h119; cases h119);rw [he];refine R5 ?_;exact D6 rfl (A6 rfl CB2)
  intro h119;refine R5 ?_;refine G4 i (i + 1) ?_ ?_ (S5 1 A8)
  ·exact ⟨by omega, Aw6 hl hinv.2 (by simpa using h119)⟩
  omega
 intro h113;have k113 := B9 h113;have hls := Ae4 (show w.Looks.length ≤ i by simpa using h113) hinv.2;refine R5 ?_;refine A1 rfl (A5 rfl Tryz.call25 rfl (AT1 _) J3) ?_;refine R3 ?_;refine L6 rfl (fun hc => A5 rfl Tryz.call24 rfl (P3 _ _ _) (A2 (A9 rfl hc) AO2)) ?_;refine R16 ?_;exact D6 rfl (A6 rfl CB2)
theorem Cy7 (r : E6) (h : 0 ≤ r.Sure ∧ r.Sure ≤ r.Log.length) : E1 87 [AV.agg r.cs] (AV.list 8 ((r.Log.take r.Sure.toNat).map I5.cs)) := by
  refine B3 Tryz.func87 rfl Tryz.ntmps87 rfl ?_;refine R3 ?_;intro b1;refine A1 rfl (G1 rfl (Y5 (sz := 8))) ?_;refine R7 ?_;refine A1 rfl (AG9 rfl O9 V2 (A0 rfl) (A0 rfl) qz8 (by (try simp only [A7]); omega)) ?_;refine R3 ?_;exact D6 rfl (A6 rfl (by first | rfl | exact C3 (AV.list 8) (by rw [List.map_take])))
theorem DG6 (g : C4) (gg : GG g) : E1 86 [AV.agg g.cs] (AV.agg (AQ0 g).cs) := by
 have h0l : 0 < g.Reps.length ∧ g.Reps.length ≤ 5 := by have := gg.many; omega
 have hr0 := p5 (g := g) (r := 0) ⟨Int.le_refl _, by omega⟩;refine B3 Tryz.func86 rfl Tryz.ntmps86 rfl ?_;refine R3 ?_;intro b1;refine R1 ?_;intro b2;refine R5 ?_;refine A1 rfl (D3 rfl G6 J2 (A0 rfl) L1 hr0 qz2) ?_;refine R2 ?_;intro b3;refine R11 ?_;refine AWP.le (B8 [0] rfl) ?_;refine J0 [(2, _), (3, _), (11, _), (12, _)] _ (fun (i : Nat) (p : E6) => i ≤ g.Reps.length ∧ (g.Reps.take i).foldl (fun b r => if b.Sure < r.Sure then r else b) (N9 g 0) = p) (fun i p => [.box b3 131 p.cs]) (fun i p => [(13, AV.int i)]) (fun i p => g.Reps.length - i) (0) (N9 g 0) ?_ (K1 C1 A8) ?_
 ·exact ⟨E2 _, rfl⟩
 intro i p hinv;refine R5 ?_;refine A3 ?_ ?_
 ·intro h14;have k14 := C5 h14;have hlt : i < g.Reps.length := Be1;obtain ⟨x, hx⟩ := B4 hlt;refine R5 ?_;refine A1 rfl (D3 rfl G6 J2 (A0 rfl) (A0 rfl) hx qz2) ?_;refine R2 ?_;intro b5;refine R10 ?_;refine A3 ?_ ?_
  ·intro h21;have k21 := C5 h21;refine R8 ?_;refine G8 i p (i + 1) (x) ?_ ?_ (Le.trans (B8 [0, 0] rfl) (E5 1 C1 A8))
   ·exact ⟨by omega, by rw [BI2 hx, hinv.2, D0 qz8]⟩
   omega
  intro h21;have k21 := B9 h21;refine R5 ?_;refine G8 i p (i + 1) (p) ?_ ?_ (Le.trans (B8 [0, 0] rfl) (E5 1 C1 A8))
  ·exact ⟨by omega, by rw [BI2 hx, hinv.2, C6 qz8]⟩
  omega
 intro h14;have k14 := B9 h14;have hge : g.Reps.length ≤ i := Be1;have hb : AQ0 g = p := (by have h9 := hinv.2; rw [P8 hge] at h9; exact h9);rw [hb];refine R7 ?_;exact D6 rfl (F3 (ys := _) 1 rfl rfl Tryz.isAgg131 J2 rfl)
theorem Cf3 (l : List I5) (hl : l.length ≤ 60) (hg : ∀ e ∈ l, S1 e.Rec = true) : E1 85 [AV.list 8 (l.map I5.cs)] (AV.agg (V9 T8 (AE9 l)).cs) := by
 have hgr : ∀ r ∈ AE9 l, S1 r = true := fun r hr => by obtain ⟨e, he, rfl⟩ := Y0.1 hr; exact hg e he
 have hrl : (AE9 l).length ≤ 60 := by unfold AE9; rw [A7]; exact hl
 refine B3 Tryz.func85 rfl Tryz.ntmps85 rfl ?_;refine R3 ?_;intro b2;refine R3 ?_;refine P6 rfl rfl rfl rfl AG7 AD7 ?_;intro v8;refine R10 ?_;refine AWP.le (B8 [0] rfl) ?_;refine J0 [(2, _), (9, _), (10, _)] _ (fun (i : Nat) (v : Value) => i ≤ l.length) (fun i v => [.arr v 175 7 ((AE9 (l.take i)).map M5.cs)]) (fun i v => [(3, AV.is v), (11, AV.int i)]) (fun i v => l.length - i) (0) (v8) ?_ (K1 C1 A8) ?_
 ·exact E2 _
 intro i v hinv;refine R5 ?_;refine A3 ?_ ?_
 ·intro h12;have k12 := C5 h12;have hlt : i < l.length := (by simpa using h12);obtain ⟨x, hx⟩ := B4 hlt;have hri : (AE9 (l.take i)).length ≤ 60 := qz176;refine R5 ?_;refine A1 rfl (D3 rfl O9 V2 (A0 rfl) (A0 rfl) hx qz2) ?_;refine R2 ?_;intro b5;refine R5 ?_;refine A1 rfl (Bl5 _ 0 rfl (A0 rfl) rfl AV1 AD7 rfl rfl) ?_;refine R1 ?_;refine H4 (by' := 88) 1 rfl rfl rfl rfl AG7 Tryz.type175 rfl rfl rfl rfl rfl rfl (A0 rfl) (A0 rfl) rfl (by simp only [A7, V8]; omega) ?_;intro v19_1;refine R6 ?_;refine G8 i v (i + 1) (v19_1) ?_ ?_ (Le.trans (B8 [0, 0] rfl) (E5 1 (by (rw [CM0 hx, X1]; rfl)) A8))
  ·exact qz8
  omega
 intro h12;have k12 := B9 h12;have hge : l.length ≤ i := (by simpa using h12);rw [P8 hge];refine R4 ?_;refine BQ5 (AK1 [0] 22 rfl rfl (K0 (C2 (i := 0) rfl) F6) BH1) ?_;refine F8 [] rfl rfl rfl rfl Tryz.call132 rfl (Cj0 (AE9 l) hgr hrl) J3 rfl ?_;intro x23 ok23;refine R4 ?_;intro b6;refine R9 ?_;exact D6 rfl (F3 (ys := _) 2 rfl rfl P2 L0 rfl)
theorem CF0 (g : C4) (gg : GG g) : E1 40 [AV.agg g.cs] (AV.agg (AZ3 g).cs) := by
  have hgr := gg.reps _ (Bg8 gg);have htl : ((AQ0 g).Log.take (AQ0 g).Sure.toNat).length ≤ 60 := by have := hgr.len; rw [F4]; omega
  refine B3 Tryz.func40 rfl Tryz.ntmps40 rfl ?_;refine R3 ?_;intro b1;refine R1 ?_;intro b2;refine R4 ?_;refine A1 rfl (A5 rfl Tryz.call86 rfl (DG6 g gg) J3) ?_;refine A1 rfl (A5 rfl Tryz.call87 rfl (Cy7 (AQ0 g) hgr.sure) J3) ?_;refine A1 rfl (A5 rfl Tryz.call85 rfl (Cf3 _ htl (fun e he => (hgr.ents e (AU0 he)).2.2)) J3) ?_;refine R3 ?_;exact D6 rfl (F3 (ys := _) 0 rfl rfl P2 L0 rfl)
theorem CF1 (w : C9) (hl : w.Groups.length ≤ 3) (hg : ∀ g ∈ w.Groups, GG g) : M1 17 [AV.agg w.cs] [] (fun _ : Value => True) (fun v => [.arr v 58 4 ((J1 w).map D9.cs)]) (fun v => AV.is v) := by
 refine C8 Tryz.func17 rfl Tryz.ntmps17 rfl ?_;refine R3 ?_;intro b1;refine A1 rfl (G1 rfl I9) ?_;refine R3 ?_;refine P6 rfl rfl rfl rfl AH6 L0 ?_;intro v6;refine R11 ?_;refine AWP.le (B8 [0] rfl) ?_;refine J0 [(2, _), (8, _), (9, _)] _ (fun (i : Nat) (v : Value) => i ≤ w.Groups.length) (fun i v => [.arr v 58 4 (((w.Groups.take i).map AZ3).map D9.cs)]) (fun i v => [(3, AV.is v), (10, AV.int i)]) (fun i v => w.Groups.length - i) (0) (v6) ?_ (K1 C1 A8) ?_
 ·exact E2 _
 intro i v hinv;refine R5 ?_;refine A3 ?_ ?_
 ·intro h11;have k11 := C5 h11;have hlt : i < w.Groups.length := (by simpa using h11);obtain ⟨g, hgx⟩ := B4 hlt;have hgg := hg g (C2 hgx);refine R5 ?_;refine A1 rfl (D3 rfl G7 E0 (A0 rfl) (A0 rfl) hgx qz2) ?_;refine R2 ?_;intro b5;refine R5 ?_;refine A1 rfl (A5 rfl Tryz.call40 rfl (CF0 g hgg) J3) ?_;refine R1 ?_;refine H4 (by' := 80) 1 rfl rfl rfl rfl AH6 Tryz.type58 rfl rfl rfl rfl rfl rfl (A0 rfl) (A0 rfl) rfl (by rw [A7, A7, F4]; simp only [V8]; omega) ?_;intro v18_1;refine R6 ?_;refine G8 i v (i + 1) (v18_1) ?_ ?_ (Le.trans (B8 [0, 0] rfl) (E5 1 (by (rw [T5, hgx, X1, X1]; rfl)) A8))
  ·exact qz8
  omega
 intro h11;have k11 := B9 h11;have hge : w.Groups.length ≤ i := (by simpa using h11);rw [P8 hge];refine R7 ?_;exact I4 [0] v (trivial) rfl C1 O6
theorem BI6 (w : C9) (hl : w.Groups.length ≤ 3) (hg : ∀ g ∈ w.Groups, GG g) : E1 17 [AV.agg w.cs] (AV.list 4 ((J1 w).map D9.cs)) :=
  L5 (CF1 w hl hg) fun v _ => K0 (Z5.2 rfl) F6
theorem Cf4 (l : List A4) (w : A4) (hl : l.length ≤ 4194303) (ha : adj N3 l = true) : E1 61 [AV.list 3 (l.map A4.cs), AV.agg w.cs] (AV.list 3 ((ins l w).map A4.cs)) := by
  rw [← BY5 ha];exact L5 (BT0 l w hl) fun v _ => K0 (Z5.2 rfl) F6
theorem Cm7 (ss : List D9) (t : Int) (hl : ss.length ≤ 10) (hs : AD1 ss) (hgw : j5 (M3 ss t) = true) : M1 29 [AV.list 4 (ss.map D9.cs), AV.int t] [] (fun _ : Value => True) (fun v => [.arr v 67 3 ((M3 ss t).map A4.cs)]) (fun v => AV.tup [AV.is v, AV.bool true]) := by
 have hrl : ∀ i, (M3 (ss.take i) t).length ≤ 240 := fun i => Am0 (Au8 hs i) Ay7 t;have hz := BT7 hs hl t;refine C8 Tryz.func29 rfl Tryz.ntmps29 rfl ?_;refine R2 ?_;refine A1 rfl (G1 rfl I9) ?_;refine R4 ?_;refine P6 rfl rfl rfl rfl D7 H0 ?_;intro v11;refine R10 ?_;refine AWP.le (B8 [0] rfl) ?_;refine J0 [(1, _), (4, _), (5, _), (12, _), (13, _)] _ (fun (i : Nat) (v : Value) => i ≤ ss.length) (fun i v => [.arr v 67 3 ((M3 (ss.take i) t).map A4.cs)]) (fun i v => [(6, AV.is v), (14, AV.int i)]) (fun i v => ss.length - i) (0) (v11) ?_ (K1 C1 A8) ?_
 ·exact E2 _
 intro i v hinv;refine R5 ?_;refine A3 ?_ ?_
 ·intro h15;have k15 := C5 h15;have hlt : i < ss.length := BF4;obtain ⟨x, hx⟩ := B4 hlt;have hxg := hs x (C2 hx);have hxs := Aw1 hxg;have hri := hrl i;have hcl := Ai4 x.Cells t;have hcc := (W6 hxg).1;refine R5 ?_;refine A1 rfl (D3 rfl AH6 L0 (A0 rfl) (A0 rfl) hx qz2) ?_;refine R2 ?_;intro b8;refine R7 ?_;refine A1 rfl (A5 rfl Tryz.call75 rfl (Ce3 x.Cells t qz8) F0) ?_;refine R4 ?_;refine AWP.le (B8 [1] rfl) ?_;refine J0 [(1, _), (4, _), (5, _), (8, _), (12, _), (13, _), (14, _), (15, _), (16, _), (17, _), (18, _), (19, _), (20, _), (21, _), (22, _)] _ (fun (j : Nat) (u : Value) => j ≤ (T3 x.Cells t).length) (fun j u => [.arr u 67 3 ((m4 (M3 (ss.take i) t) ((T3 x.Cells t).take j)).map A4.cs)]) (fun j u => [(6, AV.is u), (23, AV.int j)]) (fun j u => (T3 x.Cells t).length - j) (0) (v) ?_ (K1 C1 A8) ?_
  ·exact E2 _
  intro j u hinv;refine R5 ?_;refine A3 ?_ ?_
  ·intro h24;have k24 := C5 h24;have hltj : j < (T3 x.Cells t).length := Au0;obtain ⟨y, hy⟩ := B4 hltj;have hil := Ad1 (ws := (T3 x.Cells t).take j) (l := M3 (ss.take i) t);rw [F4] at hil;refine R5 ?_;refine A1 rfl (D3 rfl D7 H0 (A0 rfl) (A0 rfl) hy qz2) ?_;refine R2 ?_;intro b10;refine R5 ?_;refine F8 [1] rfl rfl rfl rfl Tryz.call21 rfl (An5 u _ y qz8) (A2 (A0 rfl) (A2 (A0 rfl) B0)) rfl ?_;intro x29 ok29;refine R6 ?_;refine G8 j u (j + 1) (x29) ?_ ?_ (Le.trans (B8 [1, 0] rfl) (E5 1 (by (rw [Bv1 hy, ← Bm4 (AF7 (Ae0 _ _))]; rfl)) A8))
   ·exact qz8
   omega
  intro h24;have k24 := B9 h24;have hgej : (T3 x.Cells t).length ≤ j := Au0;rw [P8 hgej];refine R5 ?_;refine G8 i v (i + 1) (u) ?_ ?_ (Le.trans (B8 [1, 0] rfl) (E5 1 (by (rw [Bv0 hx]; rfl)) A8))
  ·exact qz8
  omega
 intro h15;have k15 := B9 h15;have hge : ss.length ≤ i := BF4;rw [P8 hge];refine R5 ?_;refine A1 rfl (l8 rfl Tryz.call22 rfl (AR3 (M3 ss t) qz8) (U0 _) (P1 (Al1 0 (A0 rfl) rfl) m8)) ?_;refine R2 ?_;refine A3 ?_ ?_
 ·intro h34
  (exfalso; rw [hgw] at h34; cases h34)
 intro h34;refine R8 ?_;exact I4 [0] v (trivial) rfl C1 AA6
theorem Cf5 (ss : List D9) (t : Int) (hl : ss.length ≤ 10) (hs : AD1 ss) (hgw : j5 (M3 ss t) = true) : E1 29 [AV.list 4 (ss.map D9.cs), AV.int t] (AV.tup [AV.list 3 ((M3 ss t).map A4.cs), AV.bool true]) :=
  L5 (Cm7 ss t hl hs hgw) fun v _ => AK9 (D5 (K0 (Z5.2 rfl) F6) AE4)
theorem Bc9 (w : C9) (t : Int) (hl : w.Groups.length ≤ 3) (hg : ∀ g ∈ w.Groups, GG g) : E1 62 [AV.agg w.cs, AV.int t] (AV.list 3 ((M3 (J1 w) t).map A4.cs)) := by
 have hs : AD1 (J1 w) := fun s hsm => by obtain ⟨g, hgm, rfl⟩ := Y0.1 hsm; exact (BH8 (hg g hgm)).cells
 have hsl : (J1 w).length ≤ 10 := by unfold J1; rw [A7]; omega
 have hrl : ∀ i, (M3 ((J1 w).take i) t).length ≤ 240 := fun i => Am0 (Au8 hs i) Ay7 t;refine B3 Tryz.func62 rfl Tryz.ntmps62 rfl ?_;refine R3 ?_;intro b2;refine A1 rfl (G1 rfl (Y5 (sz := 3))) ?_;refine R3 ?_;refine A1 rfl (G1 rfl (Y5 (sz := 3))) ?_;refine R10 ?_;refine F2 [(1, _), (4, _), (11, _), (12, _)] _ (fun (i : Nat) => i ≤ w.Groups.length) (fun i => []) (fun i => [(5, AV.list 3 ((M3 ((J1 w).take i) t).map A4.cs)), (13, AV.int i)]) (fun i => w.Groups.length - i) (0) ?_ (K1 C1 A8) ?_
 ·exact E2 _
 intro i hinv;refine R5 ?_;refine A3 ?_ ?_
 ·intro h14;have k14 := C5 h14;have hlt : i < w.Groups.length := Be1;obtain ⟨g, hgx⟩ := B4 hlt;have hgg := hg g (C2 hgx);have hx : (J1 w)[i]? = some (AZ3 g) := N2 hgx;obtain ⟨x, hxe⟩ : ∃ x, AZ3 g = x := ⟨_, rfl⟩;rw [hxe] at hx;have hxg := hs x (C2 hx);have hxs := Aw1 hxg;have hri := hrl i;have hcl := Ai4 x.Cells t;have hcc := (W6 hxg).1;have hsu := BE2 g hgg;rw [hxe] at hsu;refine R5 ?_;refine A1 rfl (D3 rfl G7 E0 (A0 rfl) (A0 rfl) hgx qz2) ?_;refine R2 ?_;intro b7;refine R5 ?_;refine A1 rfl (A5 rfl Tryz.call59 rfl (hsu) J3) ?_;refine A1 rfl (BL8 rfl d8 rfl Tryz.isAgg54 (A0 rfl) rfl) ?_;refine R1 ?_;refine A1 rfl (A5 rfl Tryz.call103 rfl (Cx3 x.Cells t qz8) F0) ?_;refine R4 ?_;refine F2 [(1, _), (4, _), (7, _), (11, _), (12, _), (13, _), (14, _), (15, _), (16, _), (17, _), (18, _), (19, _), (20, _), (21, _), (22, _)] _ (fun (j : Nat) => j ≤ (T3 x.Cells t).length) (fun j => []) (fun j => [(5, AV.list 3 ((m4 (M3 ((J1 w).take i) t) ((T3 x.Cells t).take j)).map A4.cs)), (23, AV.int j)]) (fun j => (T3 x.Cells t).length - j) (0) ?_ (K1 C1 A8) ?_
  ·exact E2 _
  intro j hinv;refine R5 ?_;refine A3 ?_ ?_
  ·intro h24;have k24 := C5 h24;have hltj : j < (T3 x.Cells t).length := Au0;obtain ⟨y, hy⟩ := B4 hltj;have hil := Ad1 (ws := (T3 x.Cells t).take j) (l := M3 ((J1 w).take i) t);rw [F4] at hil;refine R5 ?_;refine A1 rfl (D3 rfl D7 H0 (A0 rfl) (A0 rfl) hy qz2) ?_;refine R2 ?_;intro b9;refine R5 ?_;refine A1 rfl (A5 rfl Tryz.call61 rfl (Cf4 (m4 (M3 ((J1 w).take i) t) ((T3 x.Cells t).take j)) y qz8 (AF7 (Ae0 _ _))) (A2 (A0 rfl) (A2 (A0 rfl) B0))) ?_;refine R6 ?_;refine G4 j (j + 1) ?_ ?_ (Le.trans (B8 [0] rfl) (E5 1 C1 ⟨(C3 (fun z => some (AV.list 3 (List.map A4.cs z))) (Bv1 hy).symm), rfl, rfl, rfl, rfl, rfl, rfl, rfl, rfl, rfl, rfl, rfl, rfl, rfl, rfl, rfl, rfl, trivial⟩))
   ·exact qz8
   omega
  intro h24;have k24 := B9 h24;have hgej : (T3 x.Cells t).length ≤ j := Au0;rw [P8 hgej];refine R5 ?_;refine G4 i (i + 1) ?_ ?_ (Le.trans (B8 [0] rfl) (E5 1 C1 ⟨(C3 (fun z => some (AV.list 3 (List.map A4.cs z))) (Bv0 hx).symm), rfl, rfl, rfl, rfl, rfl, trivial⟩))
  ·exact qz8
  omega
 intro h14;have k14 := B9 h14;have hge : (J1 w).length ≤ i := (by unfold J1; simpa using h14);rw [P8 hge];refine R7 ?_;exact D6 rfl (A6 rfl C1)
theorem AF8 {w : C9} (z : WZ w) (h : U7 w = true) : (∀ g ∈ w.Groups, GG g) ∧ AD1 (J1 w) ∧ (J1 w).length ≤ 10 ∧ ∀ s ∈ J1 w, ∀ c ∈ s.Cells, c.Key ∈ u5 := by
  have hp := Aj7.1 h;have hg : ∀ g ∈ w.Groups, GG g := fun g hgm => AK3.1 (hp.2.1.1 g hgm).1;refine ⟨hg, fun s hsm => ?_, ?_, fun s hsm => ?_⟩
  · obtain ⟨g, hgm, rfl⟩ := Y0.1 hsm; exact (BH8 (hg g hgm)).cells
  · have := z.groups.1; unfold J1; rw [A7]; omega
  · obtain ⟨g, hgm, rfl⟩ := Y0.1 hsm; exact (DD9 (hg g hgm) (z.groups.2 g hgm).2).cells
theorem Av2 (w : C9) (t : Int) (z : WZ w) : E1 9 [AV.agg w.cs, AV.int t] (AV.tup [AV.list 3 ((f5 w t).1.map A4.cs), AV.bool (f5 w t).2]) := by
 have hgl := z.groups.1;refine B3 Tryz.func9 rfl Tryz.ntmps9 rfl ?_;refine R3 ?_;intro b2;refine A1 rfl (G1 rfl (Y5 (sz := 3))) ?_;refine R6 ?_;refine A1 rfl (A5 rfl Tryz.call28 rfl (Bx3 _ AC4) (A2 (A0 rfl) B0)) ?_;refine R3 ?_;refine Q7 rfl (fun hc => A5 rfl Tryz.call16 rfl (AZ9 _) (A2 (A9 rfl hc) B0)) ?_;refine R3 ?_;refine A3 ?_ ?_
 ·intro h13;have he : f5 w t = ([], false) := (by unfold f5; rw [C6 (by cases h1 : U7 w <;> simp_all)]);rw [he];refine R2 ?_;refine A1 rfl (G1 rfl (Y5 (sz := 3))) ?_;refine R3 ?_;exact f7 rfl F1 AD2
 intro h13;have hgw : U7 w = true := (by cases h1 : U7 w <;> simp_all);obtain ⟨ws1, ws2, ws3, ws4⟩ := AF8 z hgw;have he : f5 w t = (M3 (J1 w) t, true) := (by unfold f5; rw [D0 (by cases h1 : M.isTrue t <;> simp_all)]);rw [he];refine R4 ?_;refine A1 rfl (A5 rfl Tryz.call17 rfl (BI6 w hgl ws1) J3) ?_;refine R1 ?_;refine A1 rfl (A5 rfl Tryz.call29 rfl (Cf5 (J1 w) t ws3 ws2 (BT6 ws2 t ws4)) F0) ?_;refine R6 ?_;exact f7 rfl F1 AD2
theorem Cf6 (w : C9) (t : Int) (z : WZ w) : E1 34 [AV.agg w.cs, AV.int t] (AV.tup [AV.list 3 ((f5 w t).1.map A4.cs), AV.bool (f5 w t).2]) := by
 have hgl := z.groups.1;have hst : ((U7 w && M.isTrue t) = true) → E1 62 [AV.agg w.cs, AV.int t] (AV.list 3 ((M3 (J1 w) t).map A4.cs)) := fun h => by
  rw [E8] at h;exact Bc9 w t hgl (AF8 z h.1).1
 have hsz : (U7 w && M.isTrue t) = true → C7 A4.size (M3 (J1 w) t) ≤ 1048576 ∧ AK6 (M3 (J1 w) t) = true := fun h => by
  rw [E8] at h;obtain ⟨ws1, ws2, ws3, ws4⟩ := AF8 z h.1;exact ⟨BT7 ws2 ws3 t, by rw [← AP5]; exact BT6 ws2 t ws4⟩
 refine B3 Tryz.func34 rfl Tryz.ntmps34 rfl ?_;refine R3 ?_;intro b2;refine A1 rfl (G1 rfl (Y5 (sz := 3))) ?_;refine R6 ?_;refine A1 rfl (A5 rfl Tryz.call23 rfl (Bc8 _ AC4) (A2 (A0 rfl) B0)) ?_;refine R3 ?_;refine Q7 rfl (fun hc => A5 rfl Tryz.call25 rfl (AT1 _) (A2 (A9 rfl hc) B0)) ?_;refine R5 ?_;refine Q7 rfl (fun hc => A5 rfl Tryz.call62 rfl (hst qz158) (A2 (A9 rfl hc) (A2 (A9 rfl hc) B0))) ?_;refine Q7 rfl (fun hc => A5 rfl Tryz.call26 rfl (Ax5 (M3 (J1 w) t) (hsz qz158).1) (A2 (A9 rfl hc) B0)) ?_;refine R3 ?_;refine A3 ?_ ?_
 ·intro h20;have he : f5 w t = ([], false) := (by unfold f5; rw [C6 (fun h9 => by have h8 := (hsz h9).2; rw [E8] at h9; rw [h9.1, h9.2, h8] at h20; cases h20)]);rw [he];refine R2 ?_;refine A1 rfl (G1 rfl (Y5 (sz := 3))) ?_;refine R3 ?_;exact f7 rfl F1 AD2
 intro h20;have hgw : (U7 w && M.isTrue t) = true := qz158;have he : f5 w t = (M3 (J1 w) t, true) := (by unfold f5; rw [D0 hgw]);rw [he];refine R5 ?_;refine A1 rfl (A5 rfl Tryz.call62 rfl (hst hgw) F0) ?_;refine R4 ?_;exact f7 rfl F1 AD2
end Go.PQ
namespace Go.PQ
open Go.Proofs
open Go Go.AV Go.M
attribute [local irreducible] OpW OpA OpS AWP J6 L3 K7 OpE K2 H9 K6 Le Ev F7 M7 f8 Int.tmod Int.tdiv IntKind.wrap T7
theorem CQ6 (f t : Int) (v : O3) : E1 19 [AV.agg v.cs, AV.eptr [AV.int f], AV.eptr [AV.int t]] (AV.bool (decide (f < v.Time) && decide (v.Time ≤ t))) := by
  refine B3 Tryz.func19 rfl Tryz.ntmps19 rfl ?_;refine R3 ?_;intro b3;refine R17 ?_;exact D6 rfl (A6 rfl C1)
theorem chgR_no {w : C9} {f t : Int} (h : (!(f5 w t).2 || !M.isTrue f || decide (t < f)) = true) : AJ1 w f t = ([], false) := by
  unfold AJ1;refine C6 fun h9 => ?_;simp only [E8, H1] at h9;have : (f5 w t).2 = true := by unfold f5; rw [D0 (by rw [h9.1.1, h9.1.2]; rfl)]
  rw [this, h9.2.1, AJ6 (show ¬ t < f by omega)] at h; cases h
theorem chgR_yes {w : C9} {f t : Int} (h : (!(f5 w t).2 || !M.isTrue f || decide (t < f)) = false) : (U7 w = true ∧ M.isTrue t = true) ∧ (M.isTrue f = true ∧ f ≤ t) ∧ AJ1 w f t = (chI (J1 w) f t (M3 (J1 w) t), true) ∧ f5 w t = (M3 (J1 w) t, true) := by
  simp only [r5, AD5, w5] at h;obtain ⟨⟨h1, h2⟩, h3⟩ := h;unfold f5 at h1;by_cases hg : (U7 w && M.isTrue t) = true
  · have hg2 := hg
    rw [E8] at hg2;exact ⟨hg2, ⟨h2, by omega⟩, by unfold AJ1; rw [D0 (by rw [hg, h2, i7 (show f ≤ t by omega)]; rfl)], by unfold f5; rw [D0 hg]⟩
  · rw [C6 hg] at h1; cases h1
theorem CQ7 (w : C9) (f t : Int) (z : WZ w) : M1 6 [AV.agg w.cs, AV.int f, AV.int t] [] (fun _ : Value => True) (fun v => [.arr v 67 3 ((AJ1 w f t).1.map A4.cs)]) (fun v => AV.tup [AV.is v, AV.bool (AJ1 w f t).2]) := by
 have hgl := z.groups.1;refine C8 Tryz.func6 rfl Tryz.ntmps6 rfl ?_;refine R3 ?_;intro b3;refine Bf0 rfl rfl rfl rfl (A0 rfl) (CU5 _ _) ?_;intro b4;refine Bf0 rfl rfl rfl rfl (A0 rfl) (CU5 _ _) ?_;intro b5;refine A1 rfl (G1 rfl I9) ?_;refine R6 ?_;refine A1 rfl (A5 rfl Tryz.call9 rfl (Av2 _ _ AC4) (A2 (A0 rfl) (A2 (A0 rfl) B0))) ?_;refine R1 ?_;skip
 refine R12 ?_;refine Q7 rfl (fun hc => A5 rfl Tryz.call16 rfl (AZ9 _) (A2 (A9 rfl hc) B0)) ?_;refine R8 ?_;refine A3 ?_ ?_
 ·intro h35;have he : AJ1 w f t = ([], false) := chgR_no h35;rw [he];refine R2 ?_;refine A1 rfl (G1 rfl I9) ?_;refine R3 ?_;refine Y3 67 3 ?_;exact I4 [0] (E4) (trivial) rfl C1 AA6
 intro h35;obtain ⟨hgt, hft, he, hsn⟩ := chgR_yes h35;obtain ⟨ws1, ws2, ws3, ws4⟩ := AF8 z hgt.1;have hgw := Bo7 ws2 ws4 f t;have hsz := Bo8 ws2 ws3 f t;have hra := Ae0 (J1 w) t;have hrf := Am0 ws2 ws3 t;obtain ⟨P, hP⟩ : ∃ P, chg f t = P := ⟨_, rfl⟩;have hk24 : ∀ i, (o0 P ((J1 w).take i)).length ≤ 240 := (fun i => BT8 (Au8 ws2 i) Ay7);have he2 : AJ1 w f t = (chA (M3 (J1 w) t) (o0 P (J1 w)), true) := (by rw [he, ← hP]; rfl);rw [he2, hsn];have hgw2 : j5 (chA (M3 (J1 w) t) (o0 P (J1 w))) = true := (by rw [← hP]; exact hgw);have hsz2 : C7 A4.size (chA (M3 (J1 w) t) (o0 P (J1 w))) ≤ 1048576 := (by rw [← hP]; exact hsz);refine R3 ?_;refine P6 rfl rfl rfl rfl D7 H0 ?_;intro v36;refine R6 ?_;refine A1 rfl (A5 rfl Tryz.call17 rfl (BI6 w hgl ws1) J3) ?_;refine R4 ?_;refine AWP.le (B8 [0] rfl) ?_;refine J0 [(4, _), (5, _), (6, _), (7, _), (8, _), (38, _), (39, _)] _ (fun (i : Nat) (v : Value) => i ≤ (J1 w).length) (fun i v => [.arr v 67 3 ((chA (M3 (J1 w) t) (o0 P ((J1 w).take i))).map A4.cs)]) (fun i v => [(10, AV.is v), (40, AV.int i)]) (fun i v => (J1 w).length - i) (0) (v36) ?_ (K1 C1 A8) ?_
 ·exact E2 _
 intro i v hinv;refine R5 ?_;refine A3 ?_ ?_
 ·intro h41;have k41 := C5 h41;have hlt : i < (J1 w).length := (by simpa using h41);obtain ⟨s, hs⟩ := B4 hlt;have hsg := ws2 s (C2 hs);have hcf := W6 hsg;have hki := hk24 i;refine R5 ?_;refine A1 rfl (D3 rfl AH6 L0 (A0 rfl) (A0 rfl) hs qz2) ?_;refine R2 ?_;intro b12;refine R10 ?_;refine AWP.le (B8 [1] rfl) ?_;refine J0 [(4, _), (5, _), (6, _), (7, _), (8, _), (12, _), (38, _), (39, _), (40, _), (41, _), (42, _), (43, _), (44, _), (45, _), (46, _)] _ (fun (j : Nat) (u : Value) => j ≤ s.Cells.length) (fun j u => [.arr u 67 3 ((m4 (chA (M3 (J1 w) t) (o0 P ((J1 w).take i))) ((chK P (s.Cells.take j)).map (AP3 (M3 (J1 w) t)))).map A4.cs)]) (fun j u => [(10, AV.is u), (47, AV.int j)]) (fun j u => s.Cells.length - j) (0) (v) ?_ (K1 C1 A8) ?_
  ·exact E2 _
  intro j u hinv;refine R5 ?_;refine A3 ?_ ?_
  ·intro h48;have k48 := C5 h48;have hltj : j < s.Cells.length := (by simpa using h48);obtain ⟨c, hc⟩ := B4 hltj;have hcl : (m4 (chA (M3 (J1 w) t) (o0 P ((J1 w).take i))) ((chK P (s.Cells.take j)).map (AP3 (M3 (J1 w) t)))).length ≤ 264 := (by have h9 := Cq2 (rows := M3 (J1 w) t) (ks := o0 P ((J1 w).take i)); have h8 := CE0 P (s.Cells.take j); have h7 := Ad1 (ws := (chK P (s.Cells.take j)).map (AP3 (M3 (J1 w) t))) (l := chA (M3 (J1 w) t) (o0 P ((J1 w).take i))); rw [A7] at h7; rw [F4] at h8; omega);refine R5 ?_;refine A1 rfl (D3 rfl D2 I1 (A0 rfl) (A0 rfl) hc qz2) ?_;refine R2 ?_;intro b14;refine R7 ?_;refine A1 rfl (BG6 rfl rfl F0) ?_;refine A1 rfl (l8 rfl Tryz.call18 rfl (BS4 _ _ _ Ab8) (U0 _) (P1 (evb (A0 rfl)) (P1 (AQ4 (CU9 4 3 (A0 rfl) rfl rfl) (Ac1 Tryz.call19 (fun v (_ : True) => CQ6 _ _ v))) m8))) ?_;refine R2 ?_;refine A3 ?_ ?_
   ·intro h55;refine R5 ?_;refine G8 j u (j + 1) (u) ?_ ?_ (Le.trans (B8 [0, 0] rfl) (E5 1 qz81 A8))
    ·exact qz8
    omega
   intro h55;have hcy : P c = true := (by rw [← hP]; unfold chg; simpa using h55);refine R7 ?_;intro b15;refine R8 ?_;refine A1 rfl (A5 rfl Tryz.call20 rfl (As2 (M3 (J1 w) t) c.Key qz8) F0) ?_;refine R10 ?_;refine A3 ?_ ?_
   ·intro h66;let W9 : A4 := AP3 (M3 (J1 w) t) c.Key
    have hsb : AP3 (M3 (J1 w) t) c.Key = W9 := rfl;have hrow := subR_has hra h66;refine R3 ?_;refine A1 rfl (D3 rfl D7 H0 (A0 rfl) (A0 rfl) hrow qz2) ?_;refine R6 ?_;refine F8 [2] rfl rfl rfl rfl Tryz.call21 rfl (An5 u _ W9 qz8) (A2 (A0 rfl) (A2 (A0 rfl) B0)) rfl ?_;intro x73 ok73;refine R6 ?_;refine G8 j u (j + 1) (x73) ?_ ?_ (Le.trans (B8 [1, 1, 0] rfl) (E5 2 qz81 A8))
    ·exact qz8
    omega
   intro h66;let W9 : A4 := Ab5 c.Key
   have hsb : AP3 (M3 (J1 w) t) c.Key = W9 := subR_not hra h66;refine R4 ?_;refine F8 [2] rfl rfl rfl rfl Tryz.call21 rfl (An5 u _ W9 qz8) (A2 (A0 rfl) (A2 (A0 rfl) B0)) rfl ?_;intro x73 ok73;refine R6 ?_;refine G8 j u (j + 1) (x73) ?_ ?_ (Le.trans (B8 [1, 1, 0] rfl) (E5 2 qz81 A8))
   ·exact qz8
   omega
  intro h48;have k48 := B9 h48;have hgej : s.Cells.length ≤ j := (by simpa using h48);rw [P8 hgej];refine R5 ?_;refine G8 i v (i + 1) (u) ?_ ?_ (Le.trans (B8 [1, 0] rfl) (E5 1 (by (rw [CK8 hs, chA_app]; rfl)) A8))
  ·exact qz8
  omega
 intro h41;have k41 := B9 h41;have hge : (J1 w).length ≤ i := (by simpa using h41);rw [P8 hge];refine R5 ?_;refine A1 rfl (l8 rfl Tryz.call22 rfl (AR3 (chA (M3 (J1 w) t) (o0 P (J1 w))) qz8) (U0 _) (P1 (Al1 0 (A0 rfl) rfl) m8)) ?_;refine R2 ?_;refine A3 ?_ ?_
 ·intro h78
  (exfalso; rw [hgw2] at h78; cases h78)
 intro h78;refine R8 ?_;exact I4 [0] v (trivial) rfl C1 AA6
theorem BN9 (w : C9) (f t : Int) (z : WZ w) : E1 6 [AV.agg w.cs, AV.int f, AV.int t] (AV.tup [AV.list 3 ((AJ1 w f t).1.map A4.cs), AV.bool (AJ1 w f t).2]) :=
  L5 (CQ7 w f t z) fun v _ => AK9 (D5 (K0 (Z5.2 rfl) F6) AE4)
theorem CF2 (w : C9) (f t : Int) (hl : w.Groups.length ≤ 3) (hg : ∀ g ∈ w.Groups, GG g) : M1 27 [AV.agg w.cs, AV.int f, AV.int t] [] (fun _ : Value => True) (fun v => [.arr v 67 3 ((chS (J1 w) f t).map A4.cs)]) (fun v => AV.is v) := by
 have ws2 : AD1 (J1 w) := fun s hsm => by obtain ⟨g, hgm, rfl⟩ := Y0.1 hsm; exact (BH8 (hg g hgm)).cells
 have ws3 : (J1 w).length ≤ 10 := by unfold J1; rw [A7]; omega
 obtain ⟨P, hP⟩ : ∃ P, chgS f t = P := ⟨_, rfl⟩;have hk24 : ∀ i, (o0 P ((J1 w).take i)).length ≤ 240 := fun i => BT8 (Au8 ws2 i) Ay7;have hkl : (o0 P (J1 w)).length ≤ 240 := BT8 ws2 ws3;have hrf := Am0 ws2 ws3 t;have hcs : chS (J1 w) f t = (M3 (J1 w) t).foldl over (chG (o0 P (J1 w))) := by rw [← hP]; rfl
 rw [hcs];obtain ⟨rows, hrows⟩ : ∃ rows, M3 (J1 w) t = rows := ⟨_, rfl⟩;have hsnap := Bc9 w t hl hg;rw [hrows] at hrf hsnap ⊢;obtain ⟨Q, hQ⟩ : ∃ Q, chG (o0 P (J1 w)) = Q := ⟨_, rfl⟩;have hQl : Q.length ≤ 240 := by have := Cq3 (ks := o0 P (J1 w)); rw [hQ] at this; omega
 refine C8 Tryz.func27 rfl Tryz.ntmps27 rfl ?_;refine R3 ?_;intro b3;refine A1 rfl (G1 rfl I9) ?_;refine R3 ?_;refine c7 67 3 rfl rfl rfl rfl I9 ?_;intro v7;refine R10 ?_;refine AWP.le (B8 [0] rfl) ?_;refine J0 [(1, _), (2, _), (3, _), (6, _), (18, _), (19, _)] _ (fun (i : Nat) (v : Value) => i ≤ (J1 w).length) (fun i v => [.arr v 67 3 ((chG (o0 P ((J1 w).take i))).map A4.cs)]) (fun i v => [(7, AV.is v), (20, AV.int i)]) (fun i v => (J1 w).length - i) (0) (v7) ?_ (K1 C1 A8) ?_
 ·exact E2 _
 intro i v hinv;refine R5 ?_;refine A3 ?_ ?_
 ·intro h21;have k21 := C5 h21;have hlt : i < w.Groups.length := (by simpa using h21);obtain ⟨g, hgx⟩ := B4 hlt;have hgg := hg g (C2 hgx);have hs : (J1 w)[i]? = some (AZ3 g) := N2 hgx;obtain ⟨s, hse⟩ : ∃ s, AZ3 g = s := ⟨_, rfl⟩;rw [hse] at hs;have hsl : i < (J1 w).length := (by unfold J1; rw [A7]; exact hlt);have hsg := ws2 s (C2 hs);have hcf := W6 hsg;have hki := hk24 i;have hsu := BE2 g hgg;rw [hse] at hsu;refine R5 ?_;refine A1 rfl (D3 rfl G7 E0 (A0 rfl) (A0 rfl) hgx qz2) ?_;refine R2 ?_;intro b9;refine R5 ?_;refine A1 rfl (A5 rfl Tryz.call59 rfl (hsu) J3) ?_;refine A1 rfl (BL8 rfl d8 rfl Tryz.isAgg54 (A0 rfl) rfl) ?_;refine R4 ?_;refine AWP.le (B8 [1] rfl) ?_;refine J0 [(1, _), (2, _), (3, _), (6, _), (9, _), (18, _), (19, _), (20, _), (21, _), (22, _), (23, _), (24, _), (25, _), (26, _), (27, _)] _ (fun (j : Nat) (u : Value) => j ≤ s.Cells.length) (fun j u => [.arr u 67 3 ((m4 (chG (o0 P ((J1 w).take i))) ((chK P (s.Cells.take j)).map Ab5)).map A4.cs)]) (fun j u => [(7, AV.is u), (28, AV.int j)]) (fun j u => s.Cells.length - j) (0) (v) ?_ (K1 C1 A8) ?_
  ·exact E2 _
  intro j u hinv;refine R5 ?_;refine A3 ?_ ?_
  ·intro h29;have k29 := C5 h29;have hltj : j < s.Cells.length := Be4;obtain ⟨c, hc⟩ := B4 hltj;have hcg := hcf.2.2 c (C2 hc);have hcl : (m4 (chG (o0 P ((J1 w).take i))) ((chK P (s.Cells.take j)).map Ab5)).length ≤ 264 := (by have h9 := Cq3 (ks := o0 P ((J1 w).take i)); have h8 := CE0 P (s.Cells.take j); have h7 := Ad1 (ws := (chK P (s.Cells.take j)).map Ab5) (l := chG (o0 P ((J1 w).take i))); rw [A7] at h7; rw [F4] at h8; omega);refine R5 ?_;refine A1 rfl (D3 rfl D2 I1 (A0 rfl) (A0 rfl) hc qz2) ?_;refine R2 ?_;intro b11;refine R6 ?_;refine A1 rfl (A5 rfl Tryz.call60 rfl (BT9 c t qz8) F0) ?_;refine R4 ?_;intro b12;refine R13 ?_;refine A3 ?_ ?_
   ·intro h44;have hcy : P c = true := (by rw [← hP]; exact h44);refine R5 ?_;refine BQ5 (AK1 [2] 45 rfl rfl (K0 (C2 (i := 0) rfl) F6) U2) ?_;refine F8 [] rfl rfl rfl rfl Tryz.call61 rfl (BT0 (m4 (chG (o0 P ((J1 w).take i))) ((chK P (s.Cells.take j)).map Ab5)) (Ab5 c.Key) qz8) F0 rfl ?_;intro x49 ok49;refine R6 ?_;refine G8 j u (j + 1) (x49) ?_ ?_ (Le.trans (B8 [1, 1, 0] rfl) (E5 2 qz163 A8))
    ·exact qz8
    omega
   intro h44;have hcy : P c = false := (by rw [← hP]; exact h44);refine R5 ?_;refine G8 j u (j + 1) (u) ?_ ?_ (Le.trans (B8 [0, 0, 0] rfl) (E5 2 qz163 A8))
   ·exact qz8
   omega
  intro h29;have k29 := B9 h29;have hgej : s.Cells.length ≤ j := Be4;rw [P8 hgej];refine R5 ?_;refine G8 i v (i + 1) (u) ?_ ?_ (Le.trans (B8 [1, 0] rfl) (E5 1 (by (rw [CK8 hs, chG_app]; rfl)) A8))
  ·exact qz8
  omega
 intro h21;have k21 := B9 h21;have hge : (J1 w).length ≤ i := (by unfold J1; simpa using h21);rw [P8 hge, hQ];refine R6 ?_;refine A1 rfl (A5 rfl Tryz.call62 rfl (hsnap) F0) ?_;refine R4 ?_;refine AWP.le (B8 [0] rfl) ?_;refine F2 [(6, _), (7, _), (54, _), (55, _)] _ (fun (i : Nat) => i ≤ rows.length) (fun i => [.arr v 67 3 (((rows.take i).foldl over Q).map A4.cs)]) (fun i => [(56, AV.int i)]) (fun i => rows.length - i) (0) ?_ (K1 C1 A8) ?_
 ·exact E2 _
 intro i hinv;refine R5 ?_;refine A3 ?_ ?_
 ·intro h57;have k57 := C5 h57;have hlt2 : i < rows.length := Be5;obtain ⟨x, hx⟩ := B4 hlt2;obtain ⟨L, hL⟩ : ∃ L, (rows.take i).foldl over Q = L := ⟨_, rfl⟩;have hLl : L.length = Q.length := (by rw [← hL]; exact CL3);rw [hL];refine R5 ?_;refine A1 rfl (D3 rfl D7 H0 (A0 rfl) (A0 rfl) hx qz2) ?_;refine R2 ?_;intro b15;refine R9 ?_;refine AWP.le (B8 [1] rfl) ?_;refine F2 [(6, _), (7, _), (15, _), (54, _), (55, _), (56, _), (57, _), (58, _), (59, _), (60, _), (61, _)] _ (fun (k : Nat) => k ≤ L.length) (fun k => [.arr v 67 3 ((Aq7 L x k).map A4.cs)]) (fun k => [(62, AV.int k)]) (fun k => L.length - k) (0) ?_ (K1 C1 A8) ?_
  ·exact E2 _
  intro k hinv;refine R5 ?_;refine A3 ?_ ?_
  ·intro h63;have k63 := C5 h63;have hltk : k < L.length := (by simpa using h63);obtain ⟨y, hy⟩ := B4 hltk;have hyo : (Aq7 L x k)[k]? = some y := (by rw [CL2 qz8]; exact hy);have hol := DE3 (x := x) (show k ≤ L.length by omega);refine R12 ?_;refine C0 rfl rfl (H6 0 rfl D7 H0 (A0 rfl) rfl (A0 rfl) qz8 (by simp only [A7, hol]; omega)) ?_;refine C0 rfl rfl (L7 0 rfl Tryz.underlying67 rfl I2 (A0 rfl) rfl rfl qz82) ?_;refine C0 rfl rfl (N4 0 rfl (A0 rfl) rfl j4 qz82 rfl) ?_;refine R4 ?_;refine A3 ?_ ?_
   ·intro h72;refine R4 ?_;refine A1 rfl (H6 0 rfl D7 H0 (A0 rfl) rfl (A0 rfl) qz8 (by simp only [A7, hol]; omega)) ?_;refine j7 0 rfl rfl rfl (A0 rfl) (A0 rfl) (Z2 _) rfl H0 rfl qz2 ?_;refine R5 ?_;refine G4 k (k + 1) ?_ ?_ (Le.trans (B8 [0] rfl) (K1 qz129 A8))
    ·exact qz8
    omega
   intro h72;refine R5 ?_;refine G4 k (k + 1) ?_ ?_ (Le.trans (B8 [0] rfl) (K1 qz129 A8))
   ·exact qz8
   omega
  intro h63;have k63 := B9 h63;have hgek : L.length ≤ k := (by simpa using h63);rw [DE4 hgek];refine R5 ?_;refine G4 i (i + 1) ?_ ?_ (Le.trans (B8 [1, 0] rfl) (E5 1 (by (rw [Cw2 hx, hL]; rfl)) A8))
  ·exact qz8
  omega
 intro h57;have k57 := B9 h57;have hge2 : rows.length ≤ i := Be5;rw [P8 hge2];refine R7 ?_;exact I4 [0] v (trivial) rfl C1 O6
theorem Bx4 (w : C9) (f t : Int) (hl : w.Groups.length ≤ 3) (hg : ∀ g ∈ w.Groups, GG g) : E1 27 [AV.agg w.cs, AV.int f, AV.int t] (AV.list 3 ((chS (J1 w) f t).map A4.cs)) :=
  L5 (CF2 w f t hl hg) fun v _ => K0 (Z5.2 rfl) F6
theorem Bx5 (w : C9) (f t : Int) (z : WZ w) : E1 7 [AV.agg w.cs, AV.int f, AV.int t] (AV.tup [AV.list 3 ((AJ1 w f t).1.map A4.cs), AV.bool (AJ1 w f t).2]) := by
 have hgl := z.groups.1;obtain ⟨C, hC⟩ : ∃ C, ((U7 w && within f 0 t) && M.isTrue t) = C := ⟨_, rfl⟩;have hit : within f 0 t = decide (0 ≤ f ∧ f ≤ t) := by unfold within; rw [AO5]; simp
 have hch : C = true → E1 27 [AV.agg w.cs, AV.int f, AV.int t] (AV.list 3 ((chI (J1 w) f t (M3 (J1 w) t)).map A4.cs)) ∧ C7 A4.size (chI (J1 w) f t (M3 (J1 w) t)) ≤ 1048576 ∧ AK6 (chI (J1 w) f t (M3 (J1 w) t)) = true ∧ AJ1 w f t = (chI (J1 w) f t (M3 (J1 w) t), true) := fun h => by
  rw [← hC, E8, E8, hit, H1] at h;obtain ⟨ws1, ws2, ws3, ws4⟩ := AF8 z h.1.1;refine ⟨by rw [← chS_eq ws2]; exact Bx4 w f t hgl ws1, Bo8 ws2 ws3 f t, by rw [← AP5]; exact Bo7 ws2 ws4 f t, ?_⟩;have ht := h.2;unfold M.isTrue within at ht
  simp only [E8, H1] at ht;have hf : M.isTrue f = true := by unfold M.isTrue within; simp only [E8, H1]; omega
  unfold AJ1; rw [D0 (by rw [h.1.1, h.2, hf, i7 h.1.2.2]; rfl)]
 have hno : C = false → AJ1 w f t = ([], false) := fun h => by
  unfold AJ1;refine C6 fun h9 => ?_;simp only [E8, H1] at h9;have hf := h9.2.1;unfold M.isTrue within at hf
  simp only [E8, H1] at hf;rw [← hC, h9.1.1, h9.1.2, hit, i7 ⟨hf.1, h9.2.2⟩] at h; cases h
 refine B3 Tryz.func7 rfl Tryz.ntmps7 rfl ?_;refine R3 ?_;intro b3;refine A1 rfl (G1 rfl (Y5 (sz := 3))) ?_;refine R6 ?_;refine A1 rfl (A5 rfl Tryz.call23 rfl (Bc8 _ AC4) (A2 (A0 rfl) B0)) ?_;refine R4 ?_;refine Q7 rfl (fun hc => A5 rfl Tryz.call24 rfl (P3 _ _ _) (A2 (A9 rfl hc) (A2 L1 (A2 (A9 rfl hc) B0)))) ?_;refine R4 ?_;refine Q7 rfl (fun hc => A5 rfl Tryz.call25 rfl (AT1 _) (A2 (A9 rfl hc) B0)) ?_;refine R6 ?_;refine Q7 rfl (fun hc => A5 rfl Tryz.call27 rfl ((hch qz105).1) (A2 (A9 rfl hc) (A2 (A9 rfl hc) (A2 (A9 rfl hc) B0)))) ?_;refine Q7 rfl (fun hc => A5 rfl Tryz.call26 rfl (Ax5 (chI (J1 w) f t (M3 (J1 w) t)) (hch qz105).2.1) (A2 (A9 rfl hc) B0)) ?_;refine R3 ?_;refine A3 ?_ ?_
 ·intro h29;have hc0 : C = false := (by cases hcc : C with | false => rfl | true => (have h8 := (hch hcc).2.2.1; rw [← hC] at hcc; simp only [E8] at hcc; rw [hcc.1.1, hcc.1.2, hcc.2, h8] at h29; cases h29));rw [hno hc0];refine R2 ?_;refine A1 rfl (G1 rfl (Y5 (sz := 3))) ?_;refine R3 ?_;exact f7 rfl F1 AD2
 intro h29;have hc1 : C = true := qz105;rw [(hch hc1).2.2.2];refine R6 ?_;refine A1 rfl (A5 rfl Tryz.call27 rfl ((hch hc1).1) AA5) ?_;refine R4 ?_;exact f7 rfl F1 AD2
theorem CQ8 (l ws : List A4) (hl : C7 A4.size l ≤ 1048576) (hw : C7 A4.size ws ≤ 1048576) : E1 10 [AV.list 3 (l.map A4.cs), AV.list 3 (ws.map A4.cs)] (AV.tup [AV.list 3 ((Af1 l ws).1.map A4.cs), AV.bool (Af1 l ws).2]) := by
 have hll := L9 (f := A4.size) (l := l);have hwl := L9 (f := A4.size) (l := ws);refine B3 Tryz.func10 rfl Tryz.ntmps10 rfl ?_;refine R2 ?_;refine A1 rfl (G1 rfl (Y5 (sz := 3))) ?_;refine R6 ?_;refine A1 rfl (A5 rfl Tryz.call30 rfl (Ci1 _ W1) (A2 (A0 rfl) B0)) ?_;refine R3 ?_;refine Q7 rfl (fun hc => A5 rfl Tryz.call22 rfl (AR3 _ W1) (A2 (A9 rfl hc) B0)) ?_;refine R3 ?_;refine A3 ?_ ?_
 ·intro h13;have he : Af1 l ws = ([], false) := (by unfold Af1; rw [C6 (by cases h1 : BO2 l <;> simp_all)]);rw [he];refine R2 ?_;refine A1 rfl (G1 rfl (Y5 (sz := 3))) ?_;refine R3 ?_;exact f7 rfl F1 AD2
 intro h13;have he : Af1 l ws = AV9 l ws := (by unfold Af1; rw [D0 (by cases h1 : BO2 l <;> simp_all)]);rw [he];refine R5 ?_;refine A1 rfl (A5 rfl Tryz.call31 rfl (CQ2 l ws qz8 qz8) F0) ?_;refine R6 ?_;exact f7 rfl F1 AD2
theorem CF3 (s : Str) (hs : s.length ≤ 1048576) : E1 33 [AV.wt Av6 (AV.str s)] (AV.tup [AV.int (l5N s).1, AV.bool (l5N s).2]) := by
  rw [← DD5];refine B3 Tryz.func33 rfl Tryz.ntmps33 rfl ?_;refine AWP.le (Br6 (t := 0) rfl) ?_;refine R8 ?_;refine A1 rfl (BM1 0 rfl rfl Tryz.call80 rfl (Ce0 _ _ _ W1) (A2 (A0 rfl) (A2 L1 (A2 L1 B0))) Bq2) ?_;refine R6 ?_;exact f7 rfl F1 AD2
theorem CF4 {l : List A4} : ∀ {i : Nat}, -(999999 * (i : Int)) ≤ BL7 (l.take i) ∧ BL7 (l.take i) ≤ 999999 * (i : Int)
  | 0 => by unfold BL7; simp
  | i + 1 => by
    have ih := CF4 (l := l) (i := i)
    cases h : l[i]? with
    | none => rw [T5, h]; simp only [Option.toList_none, Q6]; omega
    | some w => rw [Bb7 h]; have := BI4 w.Val; omega
theorem Bd0 {w : C9} {t : Int} (z : WZ w) : (f5 w t).1.length ≤ 240 ∧ ∀ x ∈ (f5 w t).1, x.Val.length ≤ 1048576 := by
  unfold f5;split
  · rename_i h
    rw [E8] at h;obtain ⟨ws1, ws2, ws3, ws4⟩ := AF8 z h.1;exact ⟨Am0 ws2 ws3 t, fun x hx => by have h1 := BL2 ((Ak5 ws2 t).2 x hx).2; unfold A4.size at h1; omega⟩
  · exact ⟨E2 _, fun x hx => by cases hx⟩
theorem Bx6 {w : C9} {t : Int} : At6 w t = if (f5 w t).2 = true then (BL7 (f5 w t).1, true) else (0, false) := by
  unfold At6 f5;by_cases h : (U7 w && M.isTrue t) = true
  · rw [D0 h, D0 h, D0 rfl]
  · rw [C6 h, C6 h, C6 F1]
theorem CQ9 (w : C9) (t : Int) (z : WZ w) : E1 12 [AV.wt Av6 (AV.agg w.cs), AV.int t] (AV.tup [AV.int (At6 w t).1, AV.bool (At6 w t).2]) := by
 have hrw := Bd0 (t := t) z;have hse := Bx6 (w := w) (t := t);have hsp := Av2 w t z;obtain ⟨R, hR⟩ : ∃ R, f5 w t = R := ⟨_, rfl⟩;rw [hR] at hrw hse hsp;rw [hse];refine B3 Tryz.func12 rfl Tryz.ntmps12 rfl ?_;refine AWP.le (Br6 (t := 0) rfl) ?_;refine R3 ?_;intro b2;refine R7 ?_;refine A1 rfl (A5 rfl Tryz.call9 rfl (hsp) F0) ?_;refine R12 ?_;refine A3 ?_ ?_
 ·intro h20;rw [C6 (by simpa using h20)];refine R6 ?_;exact f7 rfl F1 AD2
 intro h20;rw [D0 (by simpa using h20)];refine R13 ?_;refine AWP.le (B8 [1] rfl) ?_;refine F2 [(4, _), (5, _), (21, _), (22, _)] _ (fun (i : Nat) => i ≤ R.1.length) (fun i => [.tab Av6]) (fun i => [(8, AV.int (BL7 (R.1.take i))), (23, AV.int i)]) (fun i => R.1.length - i) (0) ?_ (K1 C1 A8) ?_
 ·exact E2 _
 intro i hinv;refine R5 ?_;refine A3 ?_ ?_
 ·intro h24;have k24 := C5 h24;have hlt : i < R.1.length := Au0;obtain ⟨x, hx⟩ := B4 hlt;have hxl := hrw.2 x (C2 hx);have hsb := CF4 (l := R.1) (i := i);have hnb := BI4 x.Val;refine R5 ?_;refine A1 rfl (D3 rfl D7 H0 (A0 rfl) (A0 rfl) hx qz2) ?_;refine R2 ?_;intro b10;refine R6 ?_;refine A1 rfl (BM1 1 rfl rfl Tryz.call33 rfl (CF3 x.Val hxl) J3 Bq2) ?_;refine R16 ?_;refine G4 i (i + 1) ?_ ?_ (Le.trans (B8 [0, 0] rfl) (E5 1 C1 ⟨(C3 (fun z => some (AV.int z)) (Bb7 hx).symm), rfl, rfl, rfl, rfl, rfl, trivial⟩))
  ·exact qz8
  omega
 intro h24;have k24 := B9 h24;have hge : R.1.length ≤ i := Au0;rw [P8 hge];refine R8 ?_;exact f7 rfl F1 AD2
theorem CR0 (w : C9) (t : Int) (z : WZ w) : E1 13 [AV.agg w.cs, AV.int t] (AV.tup [AV.int (At6 w t).1, AV.bool (At6 w t).2]) := by
 have hrw := Bd0 (t := t) z;have hse := Bx6 (w := w) (t := t);have hsp := Cf6 w t z;obtain ⟨R, hR⟩ : ∃ R, f5 w t = R := ⟨_, rfl⟩;rw [hR] at hrw hse hsp;rw [hse];refine B3 Tryz.func13 rfl Tryz.ntmps13 rfl ?_;refine R3 ?_;intro b2;refine R7 ?_;refine A1 rfl (A5 rfl Tryz.call34 rfl (hsp) F0) ?_;refine R12 ?_;refine A3 ?_ ?_
 ·intro h20;rw [C6 (by simpa using h20)];refine R6 ?_;exact f7 rfl F1 AD2
 intro h20;rw [D0 (by simpa using h20)];refine R13 ?_;refine F2 [(4, _), (5, _), (21, _), (22, _)] _ (fun (i : Nat) => i ≤ R.1.length) (fun i => []) (fun i => [(8, AV.int (BL7 (R.1.take i))), (23, AV.int i)]) (fun i => R.1.length - i) (0) ?_ (G3 A8) ?_
 ·exact E2 _
 intro i hinv;refine R5 ?_;refine A3 ?_ ?_
 ·intro h24;have k24 := C5 h24;have hlt : i < R.1.length := Au0;obtain ⟨x, hx⟩ := B4 hlt;have hxl := hrw.2 x (C2 hx);have hsb := CF4 (l := R.1) (i := i);have hnb := BI4 x.Val;refine R5 ?_;refine A1 rfl (D3 rfl D7 H0 (A0 rfl) (A0 rfl) hx qz2) ?_;refine R2 ?_;intro b10;refine R6 ?_;refine A1 rfl (A5 rfl Tryz.call35 rfl (BL4 x.Val hxl) J3) ?_;refine R16 ?_;refine G4 i (i + 1) ?_ ?_ (S5 1 ⟨(C3 (fun z => some (AV.int z)) (Bb7 hx).symm), rfl, rfl, rfl, rfl, rfl, trivial⟩)
  ·exact qz8
  omega
 intro h24;have k24 := B9 h24;have hge : R.1.length ≤ i := Au0;rw [P8 hge];refine R8 ?_;exact f7 rfl F1 AD2
end Go.PQ