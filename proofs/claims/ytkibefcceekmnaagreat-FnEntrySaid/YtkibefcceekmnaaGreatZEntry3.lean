/- Texts of the claim, part 3. -/
import Derived.Test.YtkibefcceekmnaaGreatRows
import Derived.Sort.OwnSortedInts
import Derived.Sort.EncStr
import Derived.Shelf.GgSortFunc.RowK
import Derived.Shelf.Sort.Plain
import Derived.Shelf.Slices.In.SortNone
import Derived.Test.YtkibefcceekmnaaGreatProg
import Derived.Test.YtkibefcceekmnaaGreatZEntry2
set_option linter.unusedVariables false
set_option linter.unusedSimpArgs false
set_option maxRecDepth 100000
set_option maxHeartbeats 4000000
namespace Go.Proofs.YtkibefcceekmnaaGreat
open Go Go.AV Go.M
attribute [local irreducible] OpW OpA OpS AWP C0 I0 RetOk H5 Le Ev F6
theorem BE6 {l : List B4} (h : sizeL B4.size l ≤ 4194304) : ∀ k ∈ AU3 l, k.length ≤ 4611686018427387904 := fun k hk => by
  obtain ⟨w, hw, rfl⟩ := List.mem_map.1 hk
  have := y8 (f := B4.size) hw
  have h2 : w.size = w.Key.length + w.Val.length := rfl
  omega
theorem AI0 (l : List Str) (hs : ∀ k ∈ l, k.length ≤ 4611686018427387904) : C0 Tryz.prog 41 [strs l] (AV.bool (areRising l)) := by
 refine B3 Tryz.func41 rfl Tryz.ntmps41 rfl ?_
 refine Z2 (t := 0) rfl fun hl => ?_
 try simp only [A5] at hl
 refine R12 ?_
 refine H7 [(0, _), (5, _), (6, _)] _ (fun (i : Nat) => i ≤ l.length ∧ areRising l = ((l.drop i).all goodKey && adj Op.bytesLess (l.drop (i - 1)))) (fun (i : Nat) => []) (fun (i : Nat) => [(7, AV.int i)]) (fun (i : Nat) => l.length - i) (0) ?_ (G7 ⟨rfl, rfl, rfl, rfl, trivial⟩) ?_
 ·exact ⟨Nat.zero_le _, rfl⟩
 intro i hinv
 refine R5 ?_
 refine A6 (A0 rfl) ?_ ?_
 ·intro h8
  have k8 := of_decide_eq_true h8; try simp only [A5] at k8
  have hlt : i < l.length := by omega
  obtain ⟨x, hx⟩ := E7 hlt
  obtain ⟨y, hy⟩ := E7 (show i - 1 < l.length by omega)
  have hsx := hs x (C6 hx)
  refine R6 ?_
  refine A2 rfl (F1 rfl C5 G2 (A0 rfl) (A0 rfl) hx qz1) ?_
  refine R7 ?_
  refine A2 rfl (A8 rfl Tryz.call72 rfl (Aq9 _ qz5) (A1 (A0 rfl) A3)) ?_
  refine R9 ?_
  refine X2 rfl rfl (S3 rfl rfl rfl) (fun hc => F1 rfl C5 G2 (B0 rfl hc) (B0 rfl hc) hy qz4) ?_
  refine R1 ?_
  refine X2 rfl rfl (S3 rfl rfl rfl) (fun hc => w_sleq rfl (B0 rfl hc) (B0 rfl hc)) ?_
  refine R3 ?_
  refine A6 (A0 rfl) ?_ ?_
  ·intro h27
   have hfin : areRising l = false := by rw [hinv.2]; cases hg : goodKey x with | false => (rw [Aq1 hx hg]; simp) | true => (have hb : 0 < i ∧ Op.bytesLess y x = false := (by have := d3 y x; simp_all; try grind); rw [AY0 hx hy hb.1 hb.2]; simp)
   refine R5 ?_
   exact F0 rfl (A4 rfl qz62)
  intro h27
  have hg : goodKey x = true ∧ (0 < i → Op.bytesLess y x = true) := by have := d3 y x; simp_all
  refine R5 ?_
  refine J2 i (i + 1) ?_ ?_ (G7 ⟨rfl, rfl, rfl, rfl, trivial⟩)
  ·exact ⟨by omega, by rw [hinv.2, Aq0 hx hg.1, AX9 hx hy hg.2]⟩
  omega
 intro h8
 have k8 := of_decide_eq_false h8; try simp only [A5] at k8
 have hge : l.length ≤ i := by omega
 refine R6 ?_
 exact F0 rfl (A4 rfl qz62)
theorem Ag2 (l : List B4) (hs : sizeL B4.size l ≤ 4194304) : C0 Tryz.prog 73 [AV.list 3 (l.map B4.cs)] (strs (AU3 l)) := by
 have hl : l.length ≤ 4194304 := Nat.le_trans K2 hs
 refine B3 Tryz.func73 rfl Tryz.ntmps73 rfl ?_
 refine R2 ?_
 refine A2 rfl (E2 rfl (j3 (sz := 1))) ?_
 refine R3 ?_
 refine K8 rfl rfl rfl rfl C5 G2 ?_
 intro v6
 refine R10 ?_
 refine S8 [(2, _), (7, _), (8, _)] _ (fun (i : Nat) (v : Value) => i ≤ l.length) (fun (i : Nat) (v : Value) => [.arr v 9 1 ((l.take i).map fun w => [AV.str w.Key])]) (fun (i : Nat) (v : Value) => [(3, AV.is v), (9, AV.int i)]) (fun (i : Nat) (v : Value) => l.length - i) (0) (v6) ?_ (J5 B1 ⟨rfl, rfl, rfl, rfl, rfl, trivial⟩) ?_
 ·exact Nat.zero_le _
 intro i v hinv
 refine R5 ?_
 refine A6 (A0 rfl) ?_ ?_
 ·intro h10
  have k10 := of_decide_eq_true h10; try simp only [A5] at k10
  have hlt : i < l.length := by omega
  obtain ⟨x, hx⟩ := E7 hlt
  refine R5 ?_
  refine A2 rfl (F1 rfl I3 L1 (A0 rfl) (A0 rfl) hx qz1) ?_
  refine R2 ?_
  intro b5
  refine R7 ?_
  refine J0 (by' := 16) 1 rfl rfl rfl rfl C5 Tryz.type9 rfl rfl rfl rfl rfl rfl (A0 rfl) (A0 rfl) rfl qz1 ?_
  intro v17_1
  refine R6 ?_
  refine N3 i v (i + 1) (v17_1) ?_ ?_ (T5 1 (by exact congrArg (fun z => [Own.arr v17_1 9 1 z]) (Al8 (f := fun w : B4 => [AV.str w.Key]) hx)) ⟨rfl, rfl, rfl, rfl, rfl, trivial⟩)
  ·omega
  omega
 intro h10
 have k10 := of_decide_eq_false h10; try simp only [A5] at k10
 have hge : l.length ≤ i := by omega
 rw [List.take_of_length_le hge]
 refine R7 ?_
 refine AJ5 0 2 rfl rfl ?_
 exact F0 rfl (A4 rfl (by exact congrArg (AV.list 1) (by unfold AU3; rw [List.map_map]; rfl)))
theorem AY9 (w : B4) (h : w.size ≤ 4194304) : C0 Tryz.prog 75 [AV.agg w.cs] (AV.bool (!isStored w.Val w.Gone)) := by
  unfold B4.size at h
  refine B3 Tryz.func75 rfl Tryz.ntmps75 rfl ?_
  refine R3 ?_
  intro b1
  refine R8 ?_
  refine A2 rfl (A8 rfl Tryz.call76 rfl (Am0 _ _ qz5) (A1 (A0 rfl) (A1 (A0 rfl) A3))) ?_
  refine R4 ?_
  exact F0 rfl (A4 rfl U5)
theorem Ac6 (l : List B4) (hs : sizeL B4.size l ≤ 4194304) : C0 Tryz.prog 42 [AV.list 3 (l.map B4.cs)] (AV.bool (goodWrites l)) := by
  have hm : ∀ x ∈ l, x.size ≤ 4194304 := fun x hx => Nat.le_trans (y8 hx) hs
  refine B3 Tryz.func42 rfl Tryz.ntmps42 rfl ?_
  refine R11 ?_
  refine K1 rfl (fun hc => A8 rfl Tryz.call73 rfl (Ag2 _ AF9) (A1 (B0 rfl hc) A3)) ?_
  refine K1 rfl (fun hc => A8 rfl Tryz.call41 rfl (AI0 _ (by first | assumption | exact BE6 AF9)) (A1 (B0 rfl hc) A3)) ?_
  refine R3 ?_
  refine K1 rfl (fun hc => A8 rfl Tryz.call74 rfl (AG8 _ _ _ qz72) (A1 (B0 rfl hc) (A1 (ev_fun1 Tryz.call75 (fun w h => AY9 w h)) A3))) ?_
  refine R5 ?_
  exact F0 rfl (A4 rfl (by exact congrArg AV.bool (by unfold goodWrites; simp only [A5])))
theorem Am1 (l : List B4) (hs : sizeL B4.size l ≤ 1048576) : C0 Tryz.prog 47 [AV.list 3 (l.map B4.cs)] (AV.bool (l3Writes l)) := by
 refine B3 Tryz.func47 rfl Tryz.ntmps47 rfl ?_
 refine Z2 (t := 0) rfl fun hl => ?_
 try simp only [A5] at hl
 refine R12 ?_
 refine H7 [(0, _), (5, _), (6, _)] _ (fun (i : Nat) => i ≤ l.length ∧ (l.all w8 && adj AB9 l) = ((l.drop i).all w8 && adj AB9 (l.drop (i - 1)))) (fun (i : Nat) => []) (fun (i : Nat) => [(7, AV.int i)]) (fun (i : Nat) => l.length - i) (0) ?_ (G7 ⟨rfl, rfl, rfl, rfl, trivial⟩) ?_
 ·exact ⟨Nat.zero_le _, rfl⟩
 intro i hinv
 refine R5 ?_
 refine A6 (A0 rfl) ?_ ?_
 ·intro h8
  have k8 := of_decide_eq_true h8; try simp only [A5] at k8
  have hlt : i < l.length := by omega
  obtain ⟨x, hx⟩ := E7 hlt
  obtain ⟨y, hy⟩ := E7 (show i - 1 < l.length by omega)
  have hsx : x.size ≤ 1048576 := Nat.le_trans (T7 hx) hs
  unfold B4.size at hsx
  refine R6 ?_
  refine A2 rfl (F1 rfl I3 L1 (A0 rfl) (A0 rfl) hx qz1) ?_
  refine R2 ?_
  intro b4
  refine R11 ?_
  refine A9 rfl rfl (A8 rfl Tryz.call81 rfl (Ar1 _ _ _ qz5 qz5) (A1 (A0 rfl) (A1 (A0 rfl) (A1 (A0 rfl) A3)))) ?_
  refine R8 ?_
  refine M3 rfl (S3 rfl rfl rfl) (fun hc => F1 rfl I3 L1 (B0 rfl hc) (B0 rfl hc) hy qz4) ?_
  refine R4 ?_
  refine M3 rfl (S3 rfl rfl rfl) (fun hc => w_sgeq rfl (B0 rfl hc) (B0 rfl hc)) ?_
  refine R3 ?_
  refine A6 (A0 rfl) ?_ ?_
  ·intro h34
   have hfin : l3Writes l = false := by unfold l3Writes; rw [hinv.2]; cases hg : w8 x with | false => (rw [Aq1 hx hg]; simp) | true => (have hb : 0 < i ∧ AB9 y x = false := (by unfold w8 at hg; unfold AB9; simp_all; try grind); rw [AY0 hx hy hb.1 hb.2]; simp)
   refine R5 ?_
   exact F0 rfl (A4 rfl qz57)
  intro h34
  have hg : w8 x = true ∧ (0 < i → AB9 y x = true) := by unfold w8 AB9; simp_all
  refine R5 ?_
  refine J2 i (i + 1) ?_ ?_ (AS5 1 ⟨rfl, rfl, rfl, rfl, trivial⟩)
  ·exact ⟨by omega, by rw [hinv.2, Aq0 hx hg.1, AX9 hx hy hg.2]⟩
  omega
 intro h8
 have k8 := of_decide_eq_false h8; try simp only [A5] at k8
 have hge : l.length ≤ i := by omega
 refine R9 ?_
 exact F0 rfl (A4 rfl qz57)
end Go.Proofs.YtkibefcceekmnaaGreat
namespace Go.M
open Go.AV
theorem AI1 (m : Nat) : IntKind.u8.wrap (m : Int) = ((UInt8.ofNat m).toNat : Int) := by
  rw [UInt8.toNat_ofNat']
  unfold IntKind.wrap
  simp [IntKind.bits, IntKind.signed]
theorem AD2 (m k : Nat) : ((m : Int).tmod (k : Int)) = ((m % k : Nat) : Int) := (Int.ofNat_tmod m k).symm
theorem tdiv_nat (m k : Nat) : ((m : Int).tdiv (k : Int)) = ((m / k : Nat) : Int) := (Int.ofNat_tdiv m k).symm
theorem AZ0 {m : Nat} (h : m ≤ 9223372036854775807) : IntKind.i64.wrap (m : Int) = (m : Int) := AN4 qz5
theorem byte_hi (m : Nat) : IntKind.u8.wrap (IntKind.u8.wrap ((m : Int).tmod 128) + 128) = ((UInt8.ofNat (m % 128 + 128)).toNat : Int) := by
  have h1 := AD2 m 128
  rw [show ((128 : Nat) : Int) = 128 from rfl] at h1
  rw [h1, AI1, AO9 qz5]
  have := AI1 (m % 128 + 128)
  rw [← this]; simp
theorem byte_hi2 (m : Nat) : IntKind.u8.wrap ((m : Int).tmod 128 + 128) = ((UInt8.ofNat (m % 128 + 128)).toNat : Int) := by
  have h1 := AD2 m 128
  rw [show ((128 : Nat) : Int) = 128 from rfl] at h1
  rw [h1]
  have := AI1 (m % 128 + 128)
  rw [← this]; simp
theorem BA4 {m : Nat} (h : m ≤ 9223372036854775807) : IntKind.i64.wrap ((m : Int).tdiv 128) = ((m / 128 : Nat) : Int) := by
  have h1 := tdiv_nat m 128
  rw [show ((128 : Nat) : Int) = 128 from rfl] at h1
  rw [h1, AZ0 qz5]
theorem Y1 {n : Nat} (h : n ≤ 4611686018427387904) : (numB n).length ≤ 9 := J9 (k := 9) qz5 B5
end Go.M
namespace Go.Proofs.YtkibefcceekmnaaGreat
open Go Go.AV Go.M
attribute [local irreducible] OpW OpA OpS AWP C0 I0 D7 OpE RetOk G3 H5 Le Ev F6 J1 Int.tmod Int.tdiv IntKind.wrap
theorem AM3 (n : Nat) (h : n ≤ 4611686018427387904) : C0 Tryz.prog 43 [AV.int n] (AV.str (numB n)) := by
 have hlen := Y1 h
 refine B3 Tryz.func43 rfl Tryz.ntmps43 rfl ?_
 refine R2 ?_
 refine A2 rfl (E2 rfl (D4 (l := []) rfl)) ?_
 refine R3 ?_
 refine K8 rfl rfl rfl rfl H1 f0 ?_
 intro v4
 refine R4 ?_
 refine AWP.le (H6 [0] rfl) ?_
 refine V8 [(2, _)] _ (fun (m : Nat) (bs : Str) (v : Value) => bs ++ numB m = numB n ∧ m ≤ n) (fun (m : Nat) (bs : Str) (v : Value) => [.arr v 5 1 (bs.map byteC)]) (fun (m : Nat) (bs : Str) (v : Value) => [(0, AV.int m), (3, AV.is v)]) (fun (m : Nat) (bs : Str) (v : Value) => m) (n) ([]) (v4) ?_ (J5 B1 ⟨rfl, rfl, rfl, trivial⟩) ?_
 ·exact ⟨rfl, Nat.le_refl _⟩
 intro m bs v hinv
 have hbl : bs.length ≤ 9 := by (have h9 := congrArg List.length hinv.1; rw [D5] at h9; omega)
 refine R6 ?_
 refine A6 (A0 rfl) ?_ ?_
 ·intro h6
  have k6 := of_decide_eq_true h6; try simp only [A5] at k6
  have hm : 128 ≤ m := by omega
  have hq := BA4 (m := m) qz5
  have hbyte : [[AV.ik .u8 (IntKind.u8.wrap (IntKind.u8.wrap ((m : Int).tmod 128) + 128))]] = [UInt8.ofNat (m % 128 + 128)].map byteC := by rw [byte_hi]; rfl
  refine R6 ?_
  refine A2 rfl (u6 rfl (A0 rfl) D6 B5) ?_
  refine A2 rfl (Q2 rfl F9 H3 (A0 rfl)) ?_
  refine A2 rfl (AS6 rfl (A0 rfl) D6) ?_
  refine R1 ?_
  refine J0 (by' := 1) 0 rfl rfl rfl rfl H1 Tryz.type5 rfl rfl rfl rfl rfl rfl (A0 rfl) (A0 rfl) rfl qz1 ?_
  intro v13_1
  refine R4 ?_
  refine A2 rfl (Ao1 rfl (A0 rfl) D6 B5) ?_
  refine R2 ?_
  refine AN1 ?_
  refine S9 m bs v (m / 128) (bs ++ [UInt8.ofNat (m % 128 + 128)]) (v13_1) ?_ ?_ (J5 (by rw [List.map_append, ← hbyte]; rfl) ⟨congrArg (fun z => some (AV.int z)) hq, rfl, rfl, trivial⟩)
  ·exact ⟨by rw [List.append_assoc, ← hinv.1, AC6 hm]; rfl, by omega⟩
  omega
 intro h6
 have k6 := of_decide_eq_false h6; try simp only [A5] at k6
 have hlast : [[AV.ik .u8 (IntKind.u8.wrap (m : Int))]] = [UInt8.ofNat m].map byteC := by rw [AI1]; rfl
 refine R5 ?_
 refine A2 rfl (Q2 rfl F9 H3 (A0 rfl)) ?_
 refine R1 ?_
 refine J0 (by' := 1) 0 rfl rfl rfl rfl H1 Tryz.type5 rfl rfl rfl rfl rfl rfl (A0 rfl) (A0 rfl) rfl qz1 ?_
 intro v20_2
 refine A2 rfl (Ap8 (bs := (bs ++ [UInt8.ofNat m])) 0 (by rw [List.map_append, ← hlast]; rfl) rfl H1 H3 C3 (A0 rfl)) ?_
 refine R3 ?_
 exact F0 rfl (A4 rfl (by (refine congrArg AV.str ?_; rw [← hinv.1, p9 qz5])))
theorem O2 (n : Int) (h0 : 0 ≤ n) (h : n ≤ 4611686018427387904) : C0 Tryz.prog 43 [AV.int n] (AV.str (numB n.toNat)) := by
  have := AM3 n.toNat qz5
  rwa [show ((n.toNat : Nat) : Int) = n by omega] at this
theorem AW2 (n : Nat) (h : n ≤ 4611686018427387904) : C0 Tryz.prog 48 [AV.int n] (AV.str (numB n)) := by
 have hlen := Y1 h
 refine B3 Tryz.func48 rfl Tryz.ntmps48 rfl ?_
 refine R2 ?_
 refine A2 rfl (E2 rfl (D4 (l := []) rfl)) ?_
 refine R3 ?_
 refine AE3 5 1 rfl rfl rfl rfl W5 ?_
 intro v3
 refine R3 ?_
 refine AWP.le (H6 [0] rfl) ?_
 refine V8 [(2, _)] _ (fun (m : Nat) (bs : Str) (v : Value) => bs ++ numB m = numB n ∧ m ≤ n) (fun (m : Nat) (bs : Str) (v : Value) => [.arr v 5 1 (bs.map byteC)]) (fun (m : Nat) (bs : Str) (v : Value) => [(0, AV.int m), (3, AV.is v)]) (fun (m : Nat) (bs : Str) (v : Value) => m) (n) ([]) (v3) ?_ (J5 B1 ⟨rfl, rfl, rfl, trivial⟩) ?_
 ·exact ⟨rfl, Nat.le_refl _⟩
 intro m bs v hinv
 have hbl : bs.length ≤ 9 := by (have h9 := congrArg List.length hinv.1; rw [D5] at h9; omega)
 refine R6 ?_
 refine A6 (A0 rfl) ?_ ?_
 ·intro h5
  have k5 := of_decide_eq_true h5; try simp only [A5] at k5
  have hm : 128 ≤ m := by omega
  have hq := BA4 (m := m) qz5
  have htm := AD2 m 128
  have hbyte : [[AV.ik .u8 (IntKind.u8.wrap ((m : Int).tmod 128 + 128))]] = [UInt8.ofNat (m % 128 + 128)].map byteC := by rw [byte_hi2]; rfl
  refine R6 ?_
  refine A2 rfl (u6 rfl (A0 rfl) D6 B5) ?_
  refine A2 rfl (AN5 rfl (A0 rfl) D6 (by rw [show (128 : Int) = ((128 : Nat) : Int) from rfl, htm]; omega)) ?_
  refine A2 rfl (Q2 rfl F9 H3 (A0 rfl)) ?_
  refine R1 ?_
  refine J0 (by' := 1) 0 rfl rfl rfl rfl H1 Tryz.type5 rfl rfl rfl rfl rfl rfl (A0 rfl) (A0 rfl) rfl qz1 ?_
  intro v14_1
  refine R4 ?_
  refine A2 rfl (Ao1 rfl (A0 rfl) D6 B5) ?_
  refine R2 ?_
  refine S9 m bs v (m / 128) (bs ++ [UInt8.ofNat (m % 128 + 128)]) (v14_1) ?_ ?_ (J5 (by rw [List.map_append, ← hbyte]; rfl) ⟨congrArg (fun z => some (AV.int z)) hq, rfl, rfl, trivial⟩)
  ·exact ⟨by rw [List.append_assoc, ← hinv.1, AC6 hm]; rfl, by omega⟩
  omega
 intro h5
 have k5 := of_decide_eq_false h5; try simp only [A5] at k5
 have hlast : [[AV.ik .u8 (IntKind.u8.wrap (m : Int))]] = [UInt8.ofNat m].map byteC := by rw [AI1]; rfl
 refine R5 ?_
 refine A2 rfl (Q2 rfl F9 H3 (A0 rfl)) ?_
 refine R1 ?_
 refine J0 (by' := 1) 0 rfl rfl rfl rfl H1 Tryz.type5 rfl rfl rfl rfl rfl rfl (A0 rfl) (A0 rfl) rfl qz1 ?_
 intro v19_2
 refine A2 rfl (Ap8 (bs := (bs ++ [UInt8.ofNat m])) 0 (by rw [List.map_append, ← hlast]; rfl) rfl H1 H3 C3 (A0 rfl)) ?_
 refine R3 ?_
 exact F0 rfl (A4 rfl (by (refine congrArg AV.str ?_; rw [← hinv.1, p9 qz5])))
theorem T3 (n : Int) (h0 : 0 ≤ n) (h : n ≤ 4611686018427387904) : C0 Tryz.prog 48 [AV.int n] (AV.str (numB n.toNat)) := by
  have := AW2 n.toNat qz5
  rwa [show ((n.toNat : Nat) : Int) = n by omega] at this
end Go.Proofs.YtkibefcceekmnaaGreat
namespace Go.M
open Go.AV
theorem rem_byte (c : UInt8) : IntKind.i64.wrap ((c.toNat : Int).tmod 128) = ((c.toNat % 128 : Nat) : Int) := by
  have h1 := AD2 c.toNat 128
  rw [show ((128 : Nat) : Int) = 128 from rfl] at h1
  rw [h1]; exact AZ0 qz5
theorem BK4 (p : Str) (c : UInt8) : ((vval p : Nat) : Int) + ((c.toNat % 128 : Nat) : Int) * ((128 ^ p.length : Nat) : Int) = ((vval (p ++ [c]) : Nat) : Int) := by
  rw [AP0]; simp
theorem BA5 {p : Str} (h : p.length ≤ 5) : 128 ^ p.length ≤ 34359738368 := Nat.le_trans (Nat.pow_le_pow_right B5 h) B5
theorem Ar2 {a b : Nat} (ha : a ≤ 127) (hb : b ≤ 34359738368) : -9223372036854775808 ≤ ((a : Nat) : Int) * ((b : Nat) : Int) ∧ ((a : Nat) : Int) * ((b : Nat) : Int) ≤ 4363686772736 := by
  have h := Nat.mul_le_mul ha hb
  have h2 : ((a : Nat) : Int) * ((b : Nat) : Int) = ((a * b : Nat) : Int) := by simp
  rw [h2]; omega
theorem Ar3 (p : Str) (c : UInt8) : ((128 ^ p.length : Nat) : Int) * 128 = ((128 ^ (p ++ [c]).length : Nat) : Int) := by
  rw [D5, E6, I4, Nat.zero_add, Nat.pow_succ]; simp
theorem AQ4 {b p r : Str} {a : Nat} {c : UInt8} (h : b.drop a = p ++ c :: r) : b.drop a = (p ++ [c]) ++ r := by rw [h, List.append_assoc]; rfl
theorem AT6 {b p r : Str} {a : Nat} (h : b.drop a = p ++ r) : b.drop (a + p.length) = r := by rw [← List.drop_drop, h, List.drop_left]
theorem AD3 {b p r : Str} {a : Nat} (h : b.drop a = p ++ r) : (b.take (a + p.length)).drop a = p := by
  rw [List.drop_take, h, Nat.add_sub_cancel_left, List.take_left]
theorem P4 {b : Str} {s t : E0} (h1 : s.at' ≤ t.at' ∧ t.at' ≤ b.length) (h2 : t.bad = true) (h3 : numA b s = none) : M2 b s (t, 0) := ⟨h1, Nat.zero_le _, by rw [h3]; exact ⟨h2, rfl⟩⟩
theorem z7 {b : Str} {s : E0} (h : s.bad = false) : numA b s = numP (b.drop s.at') := by unfold numA; rw [h]; rfl
theorem Ar4 {b : Str} {s : E0} (h : s.bad = true) : numA b s = none := by unfold numA; rw [h]; rfl
theorem BE7 {b : Str} {s : E0} {x : E0 × Nat} (hs : s.at' ≤ b.length) (h : M2 b s x) (hn : 60 < x.2) : Y6 b s (⟨x.1.at', true⟩, []) := by
  refine ⟨h.1, Nat.zero_le _, ?_⟩
  have hb : x.1.bad = false := by
    cases hb : x.1.bad with
    | false => rfl
    | true => have := Ab5 h hb; omega
  obtain ⟨n, k, h1, h2⟩ := c0 h hb
  rw [AK6 h1 hs, if_neg (by rw [h2] at hn; simp only at hn; omega)]
  exact ⟨rfl, rfl⟩
theorem Av8 {b : Str} {s : E0} {x : E0 × Nat} (hs : s.at' ≤ b.length) (h : M2 b s x) (hn : x.2 ≤ 60) : Y6 b s (takeR b x.1 x.2) := by
  have h0 := h.1
  cases hb : x.1.bad with
  | true =>
    rw [o2 hb]
    exact ⟨h0, Nat.zero_le _, by rw [Ab6 (z4 h hb)]; exact ⟨rfl, rfl⟩⟩
  | false =>
    obtain ⟨n, k, h1, h2⟩ := c0 h hb
    subst h2
    simp only at hn h0 ⊢
    have hl : (b.drop s.at').length = b.length - s.at' := List.length_drop
    have ht := AK6 h1 hs
    unfold takeR
    by_cases hc : k + n ≤ (b.drop s.at').length
    · rw [if_pos ⟨hn, hc⟩, List.drop_drop] at ht
      rw [if_neg (by rw [Bool.false_or, decide_eq_true_eq]; simp only; omega)]
      refine ⟨⟨by show s.at' ≤ s.at' + k + n; omega, by show s.at' + k + n ≤ b.length; omega⟩, ?_, ?_⟩
      · show ((b.drop (s.at' + k)).take n).length ≤ 60
        rw [H2]; omega
      · rw [ht]
        show ((⟨s.at' + k + n, false⟩ : E0), (b.drop (s.at' + k)).take n) = (⟨s.at' + (k + n), false⟩, (b.drop (s.at' + k)).take n)
        rw [Nat.add_assoc]
    · rw [if_neg (fun hh => hc hh.2)] at ht
      rw [if_pos (by rw [Bool.false_or, decide_eq_true_eq]; simp only; omega)]
      exact ⟨h0, Nat.zero_le _, by rw [ht]; exact ⟨rfl, rfl⟩⟩
theorem one_case {b p r0 : Str} {s t : E0} {xv : Nat} (hcp : c7 p) (hr0 : b.drop s.at' = p ++ r0) (hpl2 : s.at' + p.length ≤ b.length) (ht : (oneR b ⟨s.at' + p.length, s.bad⟩).1 = t) (hxv : (oneR b ⟨s.at' + p.length, s.bad⟩).2 = xv) :
    (t = ⟨s.at' + p.length, true⟩ ∧ xv = 0 ∧ numA b s = none) ∨ ∃ c r, r0 = c :: r ∧ t = ⟨s.at' + p.length + 1, false⟩ ∧ xv = c.toNat ∧ s.bad = false := by
  cases hsb : s.bad with
  | true =>
    rw [hsb, oneR_bad rfl] at ht hxv
    exact .inl ⟨ht.symm, hxv.symm, Ar4 hsb⟩
  | false =>
    rw [hsb] at ht hxv
    rcases Aq2 (b := b) (s := ⟨s.at' + p.length, false⟩) rfl hpl2 with ⟨g1, g2⟩ | ⟨c, r, g1, g2⟩
    · rw [g2] at ht hxv
      rw [AT6 hr0] at g1
      exact .inl ⟨ht.symm, hxv.symm, by rw [z7 hsb, hr0, g1, List.append_nil]; exact AY3 hcp⟩
    · rw [g2] at ht hxv
      rw [AT6 hr0] at g1
      exact .inr ⟨c, r, g1, ht.symm, hxv.symm, rfl⟩
theorem BE8 {b p r0 : Str} {s t : E0} {xv : Nat} (hpl2 : s.at' + p.length ≤ b.length) (hcase : (t = ⟨s.at' + p.length, true⟩ ∧ xv = 0 ∧ numA b s = none) ∨ ∃ c r, r0 = c :: r ∧ t = ⟨s.at' + p.length + 1, false⟩ ∧ xv = c.toNat ∧ s.bad = false) (hr0 : b.drop s.at' = p ++ r0) : s.at' ≤ t.at' ∧ t.at' ≤ b.length := by
  rcases hcase with ⟨h1, _⟩ | ⟨c, r, h1, h2, _⟩
  · rw [h1]; exact ⟨by show s.at' ≤ s.at' + p.length; omega, hpl2⟩
  · have h9 := congrArg List.length hr0
    rw [h1, List.length_drop, D5, E6] at h9
    rw [h2]
    exact ⟨by show s.at' ≤ s.at' + p.length + 1; omega, by show s.at' + p.length + 1 ≤ b.length; omega⟩
theorem num_case {b p r0 : Str} {s t : E0} {xv V : Nat} (hcp : c7 p) (hr0 : b.drop s.at' = p ++ r0) (hcase : (t = ⟨s.at' + p.length, true⟩ ∧ xv = 0 ∧ numA b s = none) ∨ ∃ c r, r0 = c :: r ∧ t = ⟨s.at' + p.length + 1, false⟩ ∧ xv = c.toNat ∧ s.bad = false) (hx : xv < 128) (hV : vval p + xv % 128 * 128 ^ p.length = V) (htb : s.at' ≤ t.at' ∧ t.at' ≤ b.length) :
    (((t.bad || decide ((1000000000 : Int) < (V : Int))) || (numB V != (b.take t.at').drop s.at')) = true → numA b s = none) ∧ (((t.bad || decide ((1000000000 : Int) < (V : Int))) || (numB V != (b.take t.at').drop s.at')) = false → M2 b s (t, V)) := by
  rcases hcase with ⟨h1, _, h3⟩ | ⟨c, r, h1, h2, h3, h4⟩
  · exact ⟨fun _ => h3, fun h => by rw [h1] at h; simp at h⟩
  · have hd1 : b.drop s.at' = p ++ c :: r := by rw [hr0, h1]
    have hd2 := AQ4 hd1
    have hVc : V = vval (p ++ [c]) := by rw [← hV, h3, AP0]
    have hsl : (b.take t.at').drop s.at' = p ++ [c] := by
      rw [h2]
      show (b.take (s.at' + p.length + 1)).drop s.at' = _
      rw [show s.at' + p.length + 1 = s.at' + (p ++ [c]).length by simp; omega]
      exact AD3 hd2
    have hst := AP2 (s := r) hcp (show c.toNat < 128 by omega)
    rw [← hd1, ← z7 h4, ← hVc] at hst
    rw [hsl]
    have hbad : t.bad = false := by rw [h2]
    rw [hbad, Bool.false_or]
    refine ⟨fun h => ?_, fun h => ?_⟩
    · rw [hst, if_neg]
      intro hh
      rw [hh.2] at h
      simp at h; omega
    · simp only [Bool.or_eq_false_iff, decide_eq_false_iff_not, bne_eq_false_iff_eq] at h
      rw [if_pos ⟨by omega, h.2⟩] at hst
      exact ⟨htb, by show V ≤ _; omega, by rw [hst, h2]; rfl⟩
theorem num_five {b p r0 : Str} {s t : E0} {V : Nat} (hcp : c7 p) (hr0 : b.drop s.at' = p ++ r0) (h5 : p.length = 5) (hpb : p ≠ [] → s.bad = false) (ht : (⟨s.at' + p.length, s.bad⟩ : E0) = t) (hV : vval p = V) :
    (((t.bad || decide ((1000000000 : Int) < (V : Int))) || (numB V != (b.take t.at').drop s.at')) = true → numA b s = none) ∧ (((t.bad || decide ((1000000000 : Int) < (V : Int))) || (numB V != (b.take t.at').drop s.at')) = false → M2 b s (t, V)) := by
  have hsb := hpb (by intro hc; rw [hc] at h5; cases h5)
  refine ⟨fun _ => by rw [z7 hsb, hr0]; exact Aj6 hcp qz5, fun h => ?_⟩
  exfalso
  have hsl : (b.take t.at').drop s.at' = p := by rw [← ht]; exact AD3 hr0
  rw [hsl] at h
  simp only [Bool.or_eq_false_iff, bne_eq_false_iff_eq] at h
  exact cont_ne hcp V h.2
end Go.M
namespace Go.Proofs.YtkibefcceekmnaaGreat
open Go Go.AV Go.M
attribute [local irreducible] OpW OpA OpS AWP C0 I0 D7 OpE RetOk G3 H5 Le Ev F6 J1 Int.tmod Int.tdiv IntKind.wrap
theorem l9 (q : Nat) (b : Str) (s : E0) : D7 Tryz.prog 64 [AV.ptr q 0] [.box q 69 (T8 b s)] (fun _ : Unit => True) (fun _ => [.box q 69 (T8 b ⟨s.at', true⟩)]) (fun _ => AV.tup []) := by
  refine D1 Tryz.func64 rfl Tryz.ntmps64 rfl ?_
  refine R6 ?_
  exact E4 [0] (()) (trivial) rfl B1 (J4 rfl B5 D0)
theorem e9 (q : Nat) (b : Str) (s : E0) (n : Nat) (hs : s.at' ≤ b.length) (hb : b.length ≤ 4611686018427387904) (hn : n ≤ 4611686018427387903) : D7 Tryz.prog 63 [AV.ptr q 0, AV.int n] [.box q 69 (T8 b s)] (fun _ : Unit => True) (fun _ => [.box q 69 (T8 b (takeR b s n).1)]) (fun _ => AV.str (takeR b s n).2) := by
 refine D1 Tryz.func63 rfl Tryz.ntmps63 rfl ?_
 refine R2 ?_
 refine A2 rfl (E2 rfl (D4 (l := []) rfl)) ?_
 refine R23 ?_
 refine A6 (A0 rfl) ?_ ?_
 ·intro h22
  have he : takeR b s n = (⟨s.at', true⟩, []) := by unfold takeR; rw [if_pos h22]
  rw [he]
  refine R3 ?_
  refine B6 [0] rfl rfl rfl rfl Tryz.call64 rfl (l9 q b s) (A1 (A0 rfl) A3) rfl ?_
  intro x24 ok24
  refine R3 ?_
  refine A2 rfl (E2 rfl (D4 (l := []) rfl)) ?_
  refine R2 ?_
  exact E4 [0] (()) (trivial) rfl Ae6 (H4 rfl (A4 rfl qz34))
 intro h22
 have he : takeR b s n = (⟨s.at' + n, false⟩, (b.drop s.at').take n) := by unfold takeR; rw [if_neg (by rw [h22]; decide)]
 rw [he]
 simp only [Bool.or_eq_false_iff, decide_eq_false_iff_not] at h22
 obtain ⟨hb0, hl0⟩ := h22
 have hbe : s = ⟨s.at', false⟩ := by (cases s; simp_all)
 refine R29 ?_
 refine A9 rfl rfl (a9 rfl C3 (A0 rfl) (A0 rfl) (A0 rfl) qz1 qz1 qz1) ?_
 refine R3 ?_
 exact E4 [0] (()) (trivial) rfl Ae6 (H4 rfl (A4 rfl qz34))
theorem V6 (q : Nat) (b : Str) (s : E0) (hs : s.at' ≤ b.length) (hb : b.length ≤ 1048576) : D7 Tryz.prog 31 [AV.ptr q 0] [.box q 69 (T8 b s)] (fun x : E0 × Nat => M2 b s x) (fun x => [.box q 69 (T8 b x.1)]) (fun x => AV.int x.2) := by
 refine D1 Tryz.func31 rfl Tryz.ntmps31 rfl ?_
 refine R19 ?_
 refine H7 [(0, _), (3, _)] _ (fun (p : Str) => c7 p ∧ (∃ r, b.drop s.at' = p ++ r) ∧ p.length ≤ 5 ∧ (p ≠ [] → s.bad = false)) (fun (p : Str) => [.box q 69 (T8 b ⟨s.at' + p.length, s.bad⟩)]) (fun (p : Str) => [(4, AV.int (vval p)), (5, AV.int ((128 ^ p.length : Nat) : Int))]) (fun (p : Str) => 6 - p.length) ([]) ?_ (J5 B1 ⟨rfl, rfl, rfl, rfl, trivial⟩) ?_
 ·exact ⟨fun c hc => by simp at hc, ⟨_, rfl⟩, Nat.zero_le _, fun h => absurd rfl h⟩
 intro p hinv
 obtain ⟨hcp, ⟨r0, hr0⟩, hpl, hpb⟩ := hinv
 have hpd := AT6 hr0
 have hpl2 : s.at' + p.length ≤ b.length := by (have h9 := congrArg List.length hr0; rw [List.length_drop, D5] at h9; omega)
 have hpow := BA5 hpl
 have hvl := Af8 p
 have hinv : c7 p ∧ True := ⟨hcp, trivial⟩
 refine R4 ?_
 refine B6 [0] rfl rfl rfl rfl Tryz.call63 rfl (e9 q b ⟨s.at' + p.length, s.bad⟩ 1 hpl2 qz5 qz5) (A1 (A0 rfl) (A1 D6 A3)) rfl ?_
 intro x12 ok12
 refine R10 ?_
 refine A6 (A0 rfl) ?_ ?_
 ·intro h16
  have hfail : (takeR b ⟨s.at' + p.length, s.bad⟩ 1) = (⟨s.at' + p.length, true⟩, []) ∧ numA b s = none := by (cases hsb : s.bad with | true => exact ⟨o2 rfl, Ar4 hsb⟩ | false => (rcases AP4 (b := b) (s := ⟨s.at' + p.length, false⟩) rfl hpl2 with ⟨g1, g2⟩ | ⟨c, r, _, g2⟩; (rw [hpd] at g1; exact ⟨g2, by rw [z7 hsb, hr0, g1, List.append_nil]; exact AY3 hcp⟩); (rw [hsb, g2] at h16; cases h16)))
  rw [hfail.1]
  refine R5 ?_
  (refine E4 [0] ((⟨s.at' + p.length, true⟩, 0)) ?_ rfl qz7 (H4 rfl (A4 rfl B1)); first | exact P4 ⟨by (dsimp only; omega), by (dsimp only; omega)⟩ rfl hfail.2 | exact P4 ⟨by (dsimp only; omega), by (dsimp only; omega)⟩ rfl hn | exact hgood)
 intro h16
 obtain ⟨c, r, hr, htk, hsb⟩ : ∃ c r, r0 = c :: r ∧ takeR b ⟨s.at' + p.length, s.bad⟩ 1 = (⟨s.at' + p.length + 1, false⟩, [c]) ∧ s.bad = false := by (cases hsb : s.bad with | true => (rw [hsb, o2 rfl] at h16; cases h16) | false => (rcases AP4 (b := b) (s := ⟨s.at' + p.length, false⟩) rfl hpl2 with ⟨g1, g2⟩ | ⟨c, r, g1, g2⟩; (rw [hsb, g2] at h16; cases h16); (rw [hpd] at g1; exact ⟨c, r, g1, g2, rfl⟩)))
 rw [htk]
 have hd1 : b.drop s.at' = p ++ c :: r := by rw [hr0, hr]
 have hd2 := AQ4 hd1
 have hlc : (p ++ [c]).length = p.length + 1 := by simp
 have hc128 : c.toNat % 128 ≤ 127 := by omega
 have hmb := Ar2 hc128 hpow
 have hv := BK4 p c
 have hnA := z7 (b := b) hsb
 have hpl3 : s.at' + p.length + 1 ≤ b.length := by (have h9 := congrArg List.length hd1; rw [List.length_drop, D5, E6] at h9; omega)
 refine R5 ?_
 refine A2 rfl (X3 rfl C3 (A0 rfl) D6 qz5 rfl) ?_
 refine A2 rfl (u6 rfl (A0 rfl) D6 B5) ?_
 refine A2 rfl (Q2 rfl F9 Q7 (A0 rfl)) ?_
 rw [rem_byte]
 refine R1 ?_
 refine A2 rfl (p5 rfl (A0 rfl) (A0 rfl) qz5) ?_
 refine R5 ?_
 rw [hv]
 refine R13 ?_
 refine A6 (A0 rfl) ?_ ?_
 ·intro h35
  have hn : numA b s = none := by (rw [hnA, hd1]; exact BI7 hcp (by simp only [Bool.or_eq_true, decide_eq_true_eq] at h35; omega))
  refine R3 ?_
  refine B6 [0] rfl rfl rfl rfl Tryz.call64 rfl (l9 q b ⟨s.at' + p.length + 1, false⟩) (A1 (A0 rfl) A3) rfl ?_
  intro x37 ok37
  refine R6 ?_
  (refine E4 [0] ((⟨s.at' + p.length + 1, true⟩, 0)) ?_ rfl qz7 (H4 rfl (A4 rfl B1)); first | exact P4 ⟨by (dsimp only; omega), by (dsimp only; omega)⟩ rfl hfail.2 | exact P4 ⟨by (dsimp only; omega), by (dsimp only; omega)⟩ rfl hn | exact hgood)
 intro h35
 simp only [Bool.or_eq_false_iff, decide_eq_false_iff_not] at h35
 obtain ⟨h35a, h35b⟩ := h35
 have hle : vval (p ++ [c]) ≤ 1000000000 := by omega
 have hbe : s.bad = false := hsb
 refine R5 ?_
 refine A2 rfl (X3 rfl C3 (A0 rfl) D6 qz5 rfl) ?_
 refine R2 ?_
 refine A6 (A0 rfl) ?_ ?_
 ·intro h40
  have k40 := of_decide_eq_true h40; try simp only [A5] at k40
  have hc8 : c.toNat < 128 := by omega
  have hsl : ((b.take ((s.at' + p.length + 1 : Nat) : Int).toNat).drop ((s.at' : Nat) : Int).toNat) = p ++ [c] := by (rw [Int.toNat_natCast, Int.toNat_natCast, show s.at' + p.length + 1 = s.at' + (p ++ [c]).length by simp; omega]; exact AD3 hd2)
  have hst := AP2 (s := r) hcp hc8
  rw [← hd1, ← hnA] at hst
  refine R5 ?_
  refine A9 rfl rfl (A8 rfl Tryz.call43 rfl (O2 _ qz5 qz5) (A1 (A0 rfl) A3)) ?_
  refine R9 ?_
  refine A9 rfl rfl (a9 rfl C3 (A0 rfl) (A0 rfl) (A0 rfl) qz1 qz1 qz1) ?_
  refine R2 ?_
  refine A6 (A0 rfl) ?_ ?_
  ·intro h55
   have hn : numA b s = none := by (rw [hst, if_neg]; intro hh; have h56 : (numB (vval (p ++ [c])) != (b.take ((s.at' + p.length + 1 : Nat) : Int).toNat).drop ((s.at' : Nat) : Int).toNat) = true := h55; rw [hsl, hh.2] at h56; simp at h56)
   refine R3 ?_
   refine B6 [0] rfl rfl rfl rfl Tryz.call64 rfl (l9 q b ⟨s.at' + p.length + 1, false⟩) (A1 (A0 rfl) A3) rfl ?_
   intro x57 ok57
   refine R6 ?_
   (refine E4 [0] ((⟨s.at' + p.length + 1, true⟩, 0)) ?_ rfl qz7 (H4 rfl (A4 rfl B1)); first | exact P4 ⟨by (dsimp only; omega), by (dsimp only; omega)⟩ rfl hfail.2 | exact P4 ⟨by (dsimp only; omega), by (dsimp only; omega)⟩ rfl hn | exact hgood)
  intro h55
  have hgood : M2 b s (⟨s.at' + p.length + 1, false⟩, vval (p ++ [c])) := by (have h56 : (numB (vval (p ++ [c])) != (b.take ((s.at' + p.length + 1 : Nat) : Int).toNat).drop ((s.at' : Nat) : Int).toNat) = false := h55; rw [hsl] at h56; have h57 : numB (vval (p ++ [c])) = p ++ [c] := (by simpa using h56); rw [if_pos ⟨hle, h57⟩] at hst; exact ⟨⟨by show s.at' ≤ s.at' + p.length + 1; omega, hpl3⟩, hle, by rw [hst]; rfl⟩)
  refine R7 ?_
  (refine E4 [0] ((⟨s.at' + p.length + 1, false⟩, vval (p ++ [c]))) ?_ rfl qz7 (H4 rfl (A4 rfl B1)); first | exact P4 ⟨by (dsimp only; omega), by (dsimp only; omega)⟩ rfl hfail.2 | exact P4 ⟨by (dsimp only; omega), by (dsimp only; omega)⟩ rfl hn | exact hgood)
 intro h40
 have k40 := of_decide_eq_false h40; try simp only [A5] at k40
 refine R3 ?_
 refine A2 rfl (p5 rfl (A0 rfl) D6 qz5) ?_
 refine R2 ?_
 refine AN1 ?_
 refine J2 p (p ++ [c]) ?_ ?_ (J5 (by first | rfl | (rw [hbe, hlc]; rfl)) ⟨rfl, congrArg (fun z => some (AV.int z)) (Ar3 p c), rfl, rfl, trivial⟩)
 ·exact ⟨AP3 hinv.1 qz5, ⟨r, hd2⟩, by simp only [D5, E6, I4]; omega, fun _ => hsb⟩
 omega
theorem w5 (q : Nat) (b : Str) (s : E0) (hs : s.at' ≤ b.length) (hb : b.length ≤ 1048576) : D7 Tryz.prog 67 [AV.ptr q 0] [.box q 69 (T8 b s)] (fun x : E0 × Str => Y6 b s x) (fun x => [.box q 69 (T8 b x.1)]) (fun x => AV.str x.2) := by
 refine D1 Tryz.func67 rfl Tryz.ntmps67 rfl ?_
 refine R2 ?_
 refine A2 rfl (E2 rfl (D4 (l := []) rfl)) ?_
 refine R4 ?_
 refine B6 [0] rfl rfl rfl rfl Tryz.call31 rfl (V6 q b s hs hb) (A1 (A0 rfl) A3) rfl ?_
 intro x5 ok5
 refine R8 ?_
 refine A6 (A0 rfl) ?_ ?_
 ·intro h7
  have k7 := of_decide_eq_true h7; try simp only [A5] at k7
  have hok := BE7 hs ok5 qz5
  refine R3 ?_
  refine B6 [0] rfl rfl rfl rfl Tryz.call64 rfl (l9 q b x5.1) (A1 (A0 rfl) A3) rfl ?_
  intro x9 ok9
  refine R3 ?_
  refine A2 rfl (E2 rfl (D4 (l := []) rfl)) ?_
  refine R2 ?_
  (refine E4 [0] ((⟨x5.1.at', true⟩, [])) ?_ rfl qz7 (H4 rfl (A4 rfl B1)); exact hok)
 intro h7
 have k7 := of_decide_eq_false h7; try simp only [A5] at k7
 have hok := Av8 hs ok5 qz5
 refine R5 ?_
 refine B6 [0] rfl rfl rfl rfl Tryz.call63 rfl (e9 q b x5.1 x5.2 ok5.1.2 qz5 (by have := ok5.2.1; omega)) (A1 (A0 rfl) (A1 (A0 rfl) A3)) rfl ?_
 intro x12 ok12
 refine R3 ?_
 (refine E4 [0] (takeR b x5.1 x5.2) ?_ rfl qz7 (H4 rfl (A4 rfl B1)); exact hok)
theorem AQ5 (q : Nat) (b : Str) (s : E0) (hs : s.at' ≤ b.length) (hb : b.length ≤ 1048576) : D7 Tryz.prog 99 [AV.ptr q 0] [.box q 130 (T8 b s)] (fun _ : Unit => True) (fun _ => [.box q 130 (T8 b (oneR b s).1)]) (fun _ => AV.int (oneR b s).2) := by
 refine D1 Tryz.func99 rfl Tryz.ntmps99 rfl ?_
 refine R24 ?_
 refine A6 (A0 rfl) ?_ ?_
 ·intro h18
  have he : oneR b s = (⟨s.at', true⟩, 0) := by unfold oneR; rw [if_pos h18]
  rw [he]
  refine R12 ?_
  exact E4 [0] (()) (trivial) rfl Ae6 (H4 rfl (A4 rfl (by first | rfl | (rw [hgd]; exact congrArg (fun z => AV.int z) hcw))))
 intro h18
 have he : oneR b s = (⟨s.at' + 1, false⟩, (b.getD s.at' 0).toNat) := by unfold oneR; rw [if_neg (by rw [h18]; decide)]
 rw [he]
 simp only [Bool.or_eq_false_iff, decide_eq_false_iff_not] at h18
 obtain ⟨hb0, hl0⟩ := h18
 have hbe : s = ⟨s.at', false⟩ := by (cases s; simp_all)
 obtain ⟨c, hc⟩ := E7 (show s.at' < b.length by omega)
 have hgd : b.getD s.at' 0 = c := by (rw [List.getD_eq_getElem?_getD, hc]; rfl)
 have hcw : IntKind.i64.wrap (c.toNat : Int) = (c.toNat : Int) := AZ0 (by have := c.toNat_lt; omega)
 refine R23 ?_
 refine A9 rfl rfl (X3 rfl C3 (A0 rfl) (A0 rfl) qz5 (by rw [show ((s.at' : Int) + 1 - 1).toNat = s.at' by omega]; exact hc)) ?_
 refine A9 rfl rfl (Q2 rfl F9 Q7 (A0 rfl)) ?_
 refine R3 ?_
 exact E4 [0] (()) (trivial) rfl Ae6 (H4 rfl (A4 rfl (by first | rfl | (rw [hgd]; exact congrArg (fun z => AV.int z) hcw))))
theorem Y2 (q : Nat) (b : Str) (s : E0) (hs : s.at' ≤ b.length) (hb : b.length ≤ 1048576) : D7 Tryz.prog 97 [AV.ptr q 0] [.box q 130 (T8 b s)] (fun x : E0 × Nat => M2 b s x) (fun x => [.box q 130 (T8 b x.1)]) (fun x => AV.int x.2) := by
 refine D1 Tryz.func97 rfl Tryz.ntmps97 rfl ?_
 refine R23 ?_
 refine H7 [(0, _), (2, _), (3, _)] _ (fun (p : Str) => c7 p ∧ (∃ r, b.drop s.at' = p ++ r) ∧ p.length ≤ 5 ∧ (p ≠ [] → s.bad = false)) (fun (p : Str) => [.box q 130 (T8 b ⟨s.at' + p.length, s.bad⟩)]) (fun (p : Str) => [(4, AV.int (vval p)), (5, AV.int ((128 ^ p.length : Nat) : Int)), (6, AV.int p.length)]) (fun (p : Str) => 6 - p.length) ([]) ?_ (J5 B1 ⟨rfl, rfl, rfl, rfl, rfl, rfl, trivial⟩) ?_
 ·exact ⟨fun c hc => by simp at hc, ⟨_, rfl⟩, Nat.zero_le _, fun h => absurd rfl h⟩
 intro p hinv
 obtain ⟨hcp, ⟨r0, hr0⟩, hpl, hpb⟩ := hinv
 have hpd := AT6 hr0
 have hpl2 : s.at' + p.length ≤ b.length := by (have h9 := congrArg List.length hr0; rw [List.length_drop, D5] at h9; omega)
 have hpow := BA5 hpl
 have hvl := Af8 p
 refine R6 ?_
 refine A6 (A0 rfl) ?_ ?_
 ·intro h13
  have k13 := of_decide_eq_true h13; try simp only [A5] at k13
  refine R6 ?_
  refine B6 [0] rfl rfl rfl rfl Tryz.call99 rfl (AQ5 q b ⟨s.at' + p.length, s.bad⟩ hpl2 hb) (A1 (A0 rfl) A3) rfl ?_
  intro x17 ok17
  obtain ⟨t, ht⟩ : ∃ t, (oneR b ⟨s.at' + p.length, s.bad⟩).1 = t := ⟨_, rfl⟩
  obtain ⟨xv, hxv⟩ : ∃ xv, (oneR b ⟨s.at' + p.length, s.bad⟩).2 = xv := ⟨_, rfl⟩
  rw [ht, hxv]
  have hcase := one_case (p := p) hcp hr0 hpl2 ht hxv
  have htm := AD2 xv 128
  rw [show ((128 : Nat) : Int) = 128 from rfl] at htm
  have hmb := Ar2 (show xv % 128 ≤ 127 by omega) hpow
  obtain ⟨V, hV⟩ : ∃ V, vval p + xv % 128 * 128 ^ p.length = V := ⟨_, rfl⟩
  have hV1 : ((vval p : Nat) : Int) + ((xv % 128 : Nat) : Int) * ((128 ^ p.length : Nat) : Int) = ((V : Nat) : Int) := by (rw [← hV]; simp)
  have htb : s.at' ≤ t.at' ∧ t.at' ≤ b.length := BE8 hpl2 hcase hr0
  refine R6 ?_
  refine A2 rfl (u6 rfl (A0 rfl) D6 B5) ?_
  rw [htm]
  refine R1 ?_
  refine A2 rfl (p5 rfl (A0 rfl) (A0 rfl) qz5) ?_
  refine A2 rfl (AN5 rfl (A0 rfl) (A0 rfl) qz5) ?_
  refine R3 ?_
  rw [hV1]
  refine R2 ?_
  refine A2 rfl (p5 rfl (A0 rfl) D6 qz5) ?_
  refine R7 ?_
  refine A6 (A0 rfl) ?_ ?_
  ·intro h27
   have k27 := of_decide_eq_true h27; try simp only [A5] at k27
   obtain ⟨hk1, hk2⟩ := num_case hcp hr0 hcase qz5 hV htb
   refine R14 ?_
   refine M3 rfl (O7 rfl rfl rfl) (fun hc => A8 rfl Tryz.call48 rfl (T3 _ qz5 qz5) (A1 (B0 rfl hc) A3)) ?_
   refine R9 ?_
   refine M3 rfl (O7 rfl rfl rfl) (fun hc => a9 rfl C3 (B0 rfl hc) (B0 rfl hc) (B0 rfl hc) qz4 qz4 qz4) ?_
   refine R3 ?_
   refine A6 (A0 rfl) ?_ ?_
   ·intro h50
    have hn := hk1 h50
    refine R12 ?_
    (refine E4 [0] ((⟨t.at', true⟩, 0)) ?_ rfl qz7 (H4 rfl (A4 rfl B1)); first | exact P4 ⟨by (dsimp only; omega), by (dsimp only; omega)⟩ rfl hn | exact hgood)
   intro h50
   have hgood := hk2 h50
   refine R7 ?_
   (refine E4 [0] ((t, V)) ?_ rfl qz7 (H4 rfl (A4 rfl B1)); first | exact P4 ⟨by (dsimp only; omega), by (dsimp only; omega)⟩ rfl hn | exact hgood)
  intro h27
  have k27 := of_decide_eq_false h27; try simp only [A5] at k27
  obtain ⟨c, r, hrr, hts, hxc, hsb⟩ : ∃ c r, r0 = c :: r ∧ t = ⟨s.at' + p.length + 1, false⟩ ∧ xv = c.toNat ∧ s.bad = false := by (rcases hcase with h9 | h9; (exfalso; have := h9.2.1; omega); exact h9)
  have hd2 := AQ4 (by rw [hr0, hrr] : b.drop s.at' = p ++ c :: r)
  have hst : t = ⟨s.at' + (p ++ [c]).length, s.bad⟩ := by (rw [hts, hsb, D5]; rfl)
  have hV2 : ((V : Nat) : Int) = ((vval (p ++ [c]) : Nat) : Int) := by rw [← hV, hxc, AP0]
  have hlen2 : ((p.length : Nat) : Int) + 1 = (((p ++ [c]).length : Nat) : Int) := by simp
  refine R6 ?_
  refine J2 p (p ++ [c]) ?_ ?_ (J5 (by first | rfl | (rw [hst]; rfl)) ⟨congrArg (fun z => some (AV.int z)) hV2, congrArg (fun z => some (AV.int z)) (Ar3 p c), congrArg (fun z => some (AV.int z)) hlen2, rfl, rfl, rfl, trivial⟩)
  ·exact ⟨AP3 hcp qz5, ⟨r, hd2⟩, by simp only [D5, E6, I4]; omega, fun _ => hsb⟩
  simp only [D5, E6, I4]; omega
 intro h13
 have k13 := of_decide_eq_false h13; try simp only [A5] at k13
 obtain ⟨t, ht⟩ : ∃ t, (⟨s.at' + p.length, s.bad⟩ : E0) = t := ⟨_, rfl⟩
 obtain ⟨V, hV⟩ : ∃ V, vval p = V := ⟨_, rfl⟩
 rw [ht, hV]
 have htb : s.at' ≤ t.at' ∧ t.at' ≤ b.length := by (rw [← ht]; exact ⟨by show s.at' ≤ s.at' + p.length; omega, hpl2⟩)
 obtain ⟨hk1, hk2⟩ := num_five hcp hr0 (show p.length = 5 by omega) hpb ht hV
 have hmb := Ar2 (show 0 ≤ 127 by omega) hpow
 refine R14 ?_
 refine M3 rfl (O7 rfl rfl rfl) (fun hc => A8 rfl Tryz.call48 rfl (T3 _ qz5 qz5) (A1 (B0 rfl hc) A3)) ?_
 refine R9 ?_
 refine M3 rfl (O7 rfl rfl rfl) (fun hc => a9 rfl C3 (B0 rfl hc) (B0 rfl hc) (B0 rfl hc) qz4 qz4 qz4) ?_
 refine R3 ?_
 refine A6 (A0 rfl) ?_ ?_
 ·intro h50
  have hn := hk1 h50
  refine R12 ?_
  (refine E4 [0] ((⟨t.at', true⟩, 0)) ?_ rfl qz7 (H4 rfl (A4 rfl B1)); first | exact P4 ⟨by (dsimp only; omega), by (dsimp only; omega)⟩ rfl hn | exact hgood)
 intro h50
 have hgood := hk2 h50
 refine R7 ?_
 (refine E4 [0] ((t, V)) ?_ rfl qz7 (H4 rfl (A4 rfl B1)); first | exact P4 ⟨by (dsimp only; omega), by (dsimp only; omega)⟩ rfl hn | exact hgood)
end Go.Proofs.YtkibefcceekmnaaGreat
namespace Go.M
open Go.AV
theorem AQ6 {t : Str} (h : t.length ≤ 4611686018427387904) : (textB t).length ≤ 9 + t.length := by
  unfold textB; rw [D5]; have := Y1 h; omega
theorem Ak4 : ∀ {l : List Str}, (∀ t ∈ l, t.length ≤ 1048576) → ((l.map textB).flatten).length ≤ 10 * sizeL (fun x : Str => x.length) l
  | [], _ => Nat.zero_le _
  | t :: l, h => by
    have h1 := Ak4 (l := l) fun x hx => h x (List.mem_cons_of_mem _ hx)
    have h2 := h t List.mem_cons_self
    have h3 := AQ6 (t := t) qz5
    unfold sizeL at h1 ⊢
    simp only [List.map_cons, List.flatten_cons, D5, E6, List.sum_cons] at h1 ⊢
    omega
theorem Ac7 {l : List Str} {i : Nat} {x : Str} (h : l[i]? = some x) : ((l.take (i + 1)).map textB).flatten = ((l.take i).map textB).flatten ++ textB x := by
  rw [List.take_add_one, h]; simp
theorem BE9 {l : List Str} (i : Nat) : sizeL (fun x : Str => x.length) (l.take i) ≤ sizeL (fun x : Str => x.length) l := by
  have h : l = l.take i ++ l.drop i := (List.take_append_drop i l).symm
  unfold sizeL
  conv => rhs; rw [h]
  simp only [D5, List.map_append, List.sum_append]
  omega
theorem AQ7 {l : List Str} {x : Str} (h : x ∈ l) : x.length ≤ sizeL (fun x : Str => x.length) l := y8 (f := fun x : Str => x.length) h
theorem Ac8 {l : List Str} (h : sizeL (fun x : Str => x.length) l ≤ 1048576) (i : Nat) : (numB l.length ++ ((l.take i).map textB).flatten).length ≤ 9 + 10485760 := by
  have h1 := K2 (f := fun x : Str => x.length) (l := l)
  have h2 := Y1 (n := l.length) qz5
  have h3 := Ak4 (l := l.take i) fun t ht => Nat.le_trans (AQ7 (List.mem_of_mem_take ht)) h
  have h4 := BE9 (l := l) i
  rw [D5]; omega
end Go.M
namespace Go.Proofs.YtkibefcceekmnaaGreat
open Go Go.AV Go.M
attribute [local irreducible] OpW OpA OpS AWP C0 I0 D7 OpE RetOk G3 H5 Le Ev F6 J1 Int.tmod Int.tdiv IntKind.wrap
theorem s7 (s : Str) (hs : s.length ≤ 1048576) : C0 Tryz.prog 79 [AV.str s] (AV.str (textB s)) := by
  have hl := Y1 (n := s.length) qz5
  refine B3 Tryz.func79 rfl Tryz.ntmps79 rfl ?_
  refine R2 ?_
  refine A2 rfl (E2 rfl (D4 (l := []) rfl)) ?_
  refine R5 ?_
  refine A2 rfl (A8 rfl Tryz.call43 rfl (O2 _ qz5 qz5) (A1 (A0 rfl) A3)) ?_
  refine R1 ?_
  refine A2 rfl (J7 rfl (A0 rfl) (A0 rfl) qz58) ?_
  refine R3 ?_
  exact F0 rfl (A4 rfl B1)
theorem AD4 (s : Str) (hs : s.length ≤ 1048576) : C0 Tryz.prog 84 [AV.str s] (AV.str (textB s)) := by
  have hl := Y1 (n := s.length) qz5
  refine B3 Tryz.func84 rfl Tryz.ntmps84 rfl ?_
  refine R2 ?_
  refine A2 rfl (E2 rfl (D4 (l := []) rfl)) ?_
  refine R5 ?_
  refine A2 rfl (A8 rfl Tryz.call48 rfl (T3 _ qz5 qz5) (A1 (A0 rfl) A3)) ?_
  refine R1 ?_
  refine A2 rfl (J7 rfl (A0 rfl) (A0 rfl) qz58) ?_
  refine R3 ?_
  exact F0 rfl (A4 rfl B1)
theorem Ac9 (l : List Str) (hs : sizeL (fun x : Str => x.length) l ≤ 1048576) : C0 Tryz.prog 78 [strs l] (AV.str (textsB l)) := by
 have hll := K2 (f := fun x : Str => x.length) (l := l)
 refine B3 Tryz.func78 rfl Tryz.ntmps78 rfl ?_
 refine R2 ?_
 refine A2 rfl (E2 rfl (D4 (l := []) rfl)) ?_
 refine R5 ?_
 refine A2 rfl (A8 rfl Tryz.call43 rfl (O2 _ qz5 AI7) (A1 (A0 rfl) A3)) ?_
 refine R10 ?_
 refine H7 [(2, _), (9, _), (10, _)] _ (fun (i : Nat) => i ≤ l.length) (fun (i : Nat) => []) (fun (i : Nat) => [(3, AV.str (numB l.length ++ ((l.take i).map textB).flatten)), (11, AV.int i)]) (fun (i : Nat) => l.length - i) (0) ?_ (G7 ⟨congrArg (fun z => some (AV.str z)) N9, rfl, rfl, rfl, rfl, trivial⟩) ?_
 ·exact Nat.zero_le _
 intro i hinv
 refine R5 ?_
 refine A6 (A0 rfl) ?_ ?_
 ·intro h12
  have k12 := of_decide_eq_true h12; try simp only [A5] at k12
  obtain ⟨x, hx⟩ := E7 (show i < l.length by omega)
  have hnx : (numB l.length ++ ((l.take i).map textB).flatten) ++ textB x = numB l.length ++ ((l.take (i + 1)).map textB).flatten := by rw [Ac7 hx, List.append_assoc]
  have hxl : x.length ≤ 1048576 := Nat.le_trans (AQ7 (C6 hx)) hs
  have htl := Ac8 hs i
  have hxb := AQ6 (t := x) qz5
  refine R5 ?_
  refine A2 rfl (F1 rfl C5 G2 (A0 rfl) (A0 rfl) hx qz1) ?_
  refine R6 ?_
  refine A2 rfl (A8 rfl Tryz.call79 rfl (s7 _ M5) (A1 (A0 rfl) A3)) ?_
  refine A2 rfl (J7 rfl (A0 rfl) (A0 rfl) qz5) ?_
  refine R6 ?_
  refine J2 i (i + 1) ?_ ?_ (G7 ⟨congrArg (fun z => some (AV.str z)) hnx, rfl, rfl, rfl, rfl, trivial⟩)
  ·omega
  omega
 intro h12
 have k12 := of_decide_eq_false h12; try simp only [A5] at k12
 have hend : l.take i = l := List.take_of_length_le qz5
 rw [hend]
 refine R7 ?_
 exact F0 rfl (A4 rfl B1)
theorem Am2 (l : List Str) (hs : sizeL (fun x : Str => x.length) l ≤ 1048576) : C0 Tryz.prog 83 [strs l] (AV.str (textsB l)) := by
 have hll := K2 (f := fun x : Str => x.length) (l := l)
 refine B3 Tryz.func83 rfl Tryz.ntmps83 rfl ?_
 refine R2 ?_
 refine A2 rfl (E2 rfl (D4 (l := []) rfl)) ?_
 refine R5 ?_
 refine A2 rfl (A8 rfl Tryz.call48 rfl (T3 _ qz5 AI7) (A1 (A0 rfl) A3)) ?_
 refine R10 ?_
 refine H7 [(2, _), (9, _), (10, _)] _ (fun (i : Nat) => i ≤ l.length) (fun (i : Nat) => []) (fun (i : Nat) => [(3, AV.str (numB l.length ++ ((l.take i).map textB).flatten)), (11, AV.int i)]) (fun (i : Nat) => l.length - i) (0) ?_ (G7 ⟨congrArg (fun z => some (AV.str z)) N9, rfl, rfl, rfl, rfl, trivial⟩) ?_
 ·exact Nat.zero_le _
 intro i hinv
 refine R5 ?_
 refine A6 (A0 rfl) ?_ ?_
 ·intro h12
  have k12 := of_decide_eq_true h12; try simp only [A5] at k12
  obtain ⟨x, hx⟩ := E7 (show i < l.length by omega)
  have hnx : (numB l.length ++ ((l.take i).map textB).flatten) ++ textB x = numB l.length ++ ((l.take (i + 1)).map textB).flatten := by rw [Ac7 hx, List.append_assoc]
  have hxl : x.length ≤ 1048576 := Nat.le_trans (AQ7 (C6 hx)) hs
  have htl := Ac8 hs i
  have hxb := AQ6 (t := x) qz5
  refine R5 ?_
  refine A2 rfl (F1 rfl C5 G2 (A0 rfl) (A0 rfl) hx qz1) ?_
  refine R6 ?_
  refine A2 rfl (A8 rfl Tryz.call84 rfl (AD4 _ M5) (A1 (A0 rfl) A3)) ?_
  refine A2 rfl (J7 rfl (A0 rfl) (A0 rfl) qz5) ?_
  refine R6 ?_
  refine J2 i (i + 1) ?_ ?_ (G7 ⟨congrArg (fun z => some (AV.str z)) hnx, rfl, rfl, rfl, rfl, trivial⟩)
  ·omega
  omega
 intro h12
 have k12 := of_decide_eq_false h12; try simp only [A5] at k12
 have hend : l.take i = l := List.take_of_length_le qz5
 rw [hend]
 refine R7 ?_
 exact F0 rfl (A4 rfl B1)
theorem Ar5 (b : Str) (at' : Int) : C0 Tryz.prog 96 [AV.str b, AV.int at'] (AV.bool (placeB b at')) := by
  refine B3 Tryz.func96 rfl Tryz.ntmps96 rfl ?_
  refine R13 ?_
  refine K1 rfl (fun hc => A8 rfl Tryz.call18 rfl (M0 _ _ _) (A1 (B0 rfl hc) (A1 D6 (A1 (B0 rfl hc) A3)))) ?_
  refine R4 ?_
  exact F0 rfl (A4 rfl U5)
theorem Ar6 (q : Nat) (b : Str) (s : E0) (hs : s.at' ≤ b.length) (hb : b.length ≤ 1048576) : D7 Tryz.prog 66 [AV.ptr q 0] [.box q 69 (T8 b s)] (fun x : E0 × List Str × Value => U4 b s x.1 x.2.1) (fun x => [.box q 69 (T8 b x.1), .arr x.2.2 9 1 (x.2.1.map fun t => [AV.str t])]) (fun x => AV.is x.2.2) := by
 refine D1 Tryz.func66 rfl Tryz.ntmps66 rfl ?_
 refine R2 ?_
 refine A2 rfl (E2 rfl W5) ?_
 refine R4 ?_
 refine B6 [0] rfl rfl rfl rfl Tryz.call31 rfl (V6 q b s hs hb) (A1 (A0 rfl) A3) rfl ?_
 intro x7 ok7
 obtain ⟨N, hN⟩ : ∃ N, x7.2 = N := ⟨_, rfl⟩
 rw [hN]
 refine R8 ?_
 refine A6 (A0 rfl) ?_ ?_
 ·intro h9
  have k9 := of_decide_eq_true h9; try simp only [A5] at k9
  have hrun := Aj7 ok7 qz5 N
  have hsmall : (true = false → N ≤ 40) := fun h => by cases h
  refine R2 ?_
  refine B6 [0] rfl rfl rfl rfl Tryz.call64 rfl (l9 q b x7.1) (A1 (A0 rfl) A3) rfl ?_
  intro x11 ok11
  refine R3 ?_
  refine K8 rfl rfl rfl rfl C5 G2 ?_
  intro v12
  refine R8 ?_
  refine AWP.le (H6 [1, 0] rfl) ?_
  refine T0 [(0, _), (2, _), (3, _)] _ (fun (t : E0) (i : Nat) (l : List Str) (v : Value) => w9 b s t l (N - i) ∧ l.length = i ∧ (t.bad = false → N ≤ 40) ∧ i ≤ 41) (fun (t : E0) (i : Nat) (l : List Str) (v : Value) => [.box q 69 (T8 b t), .arr v 9 1 (l.map fun t => [AV.str t])]) (fun (t : E0) (i : Nat) (l : List Str) (v : Value) => [(4, AV.is v), (5, AV.int i)]) (fun (t : E0) (i : Nat) (l : List Str) (v : Value) => N - i) (_) (0) ([]) (v12) ?_ (J5 B1 ⟨rfl, rfl, rfl, rfl, rfl, trivial⟩) ?_
  ·exact ⟨hrun, rfl, (by first | exact hsmall | (intro _; omega)), by omega⟩
  intro t i l v hinv
  refine R14 ?_
  refine A6 (A0 rfl) ?_ ?_
  ·intro h22
   simp only [Bool.and_eq_true, decide_eq_true_eq, Bool.not_eq_true'] at h22
   obtain ⟨hi, hnb⟩ := h22
   have hN4 := hinv.2.2.1 hnb
   have htb := hinv.1.1.2
   have hli := hinv.2.1
   refine R6 ?_
   refine B6 [0] rfl rfl rfl rfl Tryz.call67 rfl (w5 q b t htb hb) (A1 (A0 rfl) A3) rfl ?_
   intro x27 ok27
   refine R1 ?_
   refine J0 (by' := 16) 1 rfl rfl rfl rfl C5 Tryz.type9 rfl rfl rfl rfl rfl rfl (A0 rfl) (A0 rfl) rfl qz1 ?_
   intro v29_1
   refine R7 ?_
   refine Q1 t i l v (x27.1) (i + 1) (l ++ [x27.2]) (v29_1) ?_ ?_ (J5 AG1 ⟨rfl, rfl, rfl, rfl, rfl, trivial⟩)
   ·exact ⟨AB3 (m := N - (i + 1)) (by rw [show N - (i + 1) + 1 = N - i by omega]; exact hinv.1) hnb ok27, by simp [hinv.2.1], fun _ => hinv.2.2.1 hnb, by omega⟩
   omega
  intro h22
  have hok : U4 b s t l := by (cases htb : t.bad with | true => exact AF1 hinv.1 htb | false => (rw [htb] at h22; simp at h22; have h9 := hinv.1; rw [show N - i = 0 by omega] at h9; exact AF0 h9))
  refine R7 ?_
  (refine E4 [0, 0] ((t, l, v)) ?_ rfl qz7 (H4 rfl (A4 rfl B1)); exact hok)
 intro h9
 have k9 := of_decide_eq_false h9; try simp only [A5] at k9
 have hrun := AV4 ok7 qz5
 rw [hN] at hrun
 refine R3 ?_
 refine K8 rfl rfl rfl rfl C5 G2 ?_
 intro v12
 refine R8 ?_
 refine AWP.le (H6 [1, 0] rfl) ?_
 refine T0 [(0, _), (2, _), (3, _)] _ (fun (t : E0) (i : Nat) (l : List Str) (v : Value) => w9 b s t l (N - i) ∧ l.length = i ∧ (t.bad = false → N ≤ 40) ∧ i ≤ 41) (fun (t : E0) (i : Nat) (l : List Str) (v : Value) => [.box q 69 (T8 b t), .arr v 9 1 (l.map fun t => [AV.str t])]) (fun (t : E0) (i : Nat) (l : List Str) (v : Value) => [(4, AV.is v), (5, AV.int i)]) (fun (t : E0) (i : Nat) (l : List Str) (v : Value) => N - i) (_) (0) ([]) (v12) ?_ (J5 B1 ⟨rfl, rfl, rfl, rfl, rfl, trivial⟩) ?_
 ·exact ⟨hrun, rfl, (by first | exact hsmall | (intro _; omega)), by omega⟩
 intro t i l v hinv
 refine R14 ?_
 refine A6 (A0 rfl) ?_ ?_
 ·intro h22
  simp only [Bool.and_eq_true, decide_eq_true_eq, Bool.not_eq_true'] at h22
  obtain ⟨hi, hnb⟩ := h22
  have hN4 := hinv.2.2.1 hnb
  have htb := hinv.1.1.2
  have hli := hinv.2.1
  refine R6 ?_
  refine B6 [0] rfl rfl rfl rfl Tryz.call67 rfl (w5 q b t htb hb) (A1 (A0 rfl) A3) rfl ?_
  intro x27 ok27
  refine R1 ?_
  refine J0 (by' := 16) 1 rfl rfl rfl rfl C5 Tryz.type9 rfl rfl rfl rfl rfl rfl (A0 rfl) (A0 rfl) rfl qz1 ?_
  intro v29_2
  refine R7 ?_
  refine Q1 t i l v (x27.1) (i + 1) (l ++ [x27.2]) (v29_2) ?_ ?_ (J5 AG1 ⟨rfl, rfl, rfl, rfl, rfl, trivial⟩)
  ·exact ⟨AB3 (m := N - (i + 1)) (by rw [show N - (i + 1) + 1 = N - i by omega]; exact hinv.1) hnb ok27, by simp [hinv.2.1], fun _ => hinv.2.2.1 hnb, by omega⟩
  omega
 intro h22
 have hok : U4 b s t l := by (cases htb : t.bad with | true => exact AF1 hinv.1 htb | false => (rw [htb] at h22; simp at h22; have h9 := hinv.1; rw [show N - i = 0 by omega] at h9; exact AF0 h9))
 refine R7 ?_
 (refine E4 [0, 0] ((t, l, v)) ?_ rfl qz7 (H4 rfl (A4 rfl B1)); exact hok)
end Go.Proofs.YtkibefcceekmnaaGreat
namespace Go.M
open Go.AV
theorem u8w {x : Int} {m : Nat} (h : x % 256 = ((m % 256 : Nat) : Int)) : IntKind.u8.wrap x = ((UInt8.ofNat m).toNat : Int) := by
  have : (UInt8.ofNat m).toNat = m % 256 := by simp
  rw [this, ← h]
  simp [IntKind.wrap, IntKind.bits, IntKind.signed]
theorem thr16 (m : Nat) (hm : m < 16777216) : IntKind.u8.wrap ((m : Int) / 2 ^ (16 : Int).toNat) = ((UInt8.ofNat (m / 65536)).toNat : Int) := u8w (by rw [show (2 : Int) ^ (16 : Int).toNat = 65536 from rfl]; omega)
theorem thr8 (m : Nat) (hm : m < 16777216) : IntKind.u8.wrap ((m : Int) / 2 ^ (8 : Int).toNat) = ((UInt8.ofNat (m / 256 % 256)).toNat : Int) := u8w (by rw [show (2 : Int) ^ (8 : Int).toNat = 256 from rfl]; omega)
theorem thr0 (m : Nat) : IntKind.u8.wrap (m : Int) = ((UInt8.ofNat (m % 256)).toNat : Int) := u8w qz5
theorem div16 (m : Nat) (hm : m < 16777216) : IntKind.u8.wrap (IntKind.i64.wrap ((m : Int).tdiv 65536)) = ((UInt8.ofNat (m / 65536)).toNat : Int) := by
  rw [show ((m : Int)).tdiv 65536 = ((m / 65536 : Nat) : Int) from rfl, AN4 qz5]
  exact u8w qz5
theorem div8 (m : Nat) (hm : m < 16777216) : IntKind.u8.wrap ((IntKind.i64.wrap ((m : Int).tdiv 256)).tmod 256) = ((UInt8.ofNat (m / 256 % 256)).toNat : Int) := by
  rw [show ((m : Int)).tdiv 256 = ((m / 256 : Nat) : Int) from rfl, AN4 qz5, show ((m / 256 : Nat) : Int).tmod 256 = ((m / 256 % 256 : Nat) : Int) from rfl]
  exact u8w qz5
theorem div0 (m : Nat) : IntKind.u8.wrap ((m : Int).tmod 256) = ((UInt8.ofNat (m % 256)).toNat : Int) := by
  rw [show (m : Int).tmod 256 = ((m % 256 : Nat) : Int) from rfl]
  exact u8w qz5
theorem Ak5 (c : UInt8) : IntKind.i64.wrap ((c.toNat : Nat) : Int) = c.toNat := AN4 (by have := c.toNat_lt; omega)
theorem Ar7 {s : Str} {i : Nat} {c : UInt8} (h : s[i]? = some c) : (31 * ((sumB (s.take i) : Nat) : Int) + (c.toNat : Int) + 1).tmod 16000057 = ((sumB (s.take (i + 1)) : Nat) : Int) := by
  rw [BI8 h, AU4, show (31 * ((sumB (s.take i) : Nat) : Int) + (c.toNat : Int) + 1) = ((31 * sumB (s.take i) + c.toNat + 1 : Nat) : Int) by simp, show ((16000057 : Int)) = ((16000057 : Nat) : Int) from rfl, ← Int.ofNat_tmod]
end Go.M
namespace Go.Proofs.YtkibefcceekmnaaGreat
open Go Go.AV Go.M
attribute [local irreducible] OpW OpA OpS AWP C0 I0 D7 OpE RetOk G3 H5 Le Ev F6 J1
theorem BF0 (s : Str) (hs : s.length ≤ 4611686018427387904) : C0 Tryz.prog 104 [AV.str s] (AV.int (sumB s)) := by
 refine B3 Tryz.func104 rfl Tryz.ntmps104 rfl ?_
 refine R16 ?_
 refine H7 [(0, _), (2, _), (6, _)] _ (fun (i : Nat) => i ≤ s.length) (fun (i : Nat) => []) (fun (i : Nat) => [(3, AV.int (sumB (s.take i))), (7, AV.int i)]) (fun (i : Nat) => s.length - i) (0) ?_ (G7 ⟨rfl, rfl, rfl, rfl, rfl, trivial⟩) ?_
 ·exact Nat.zero_le _
 intro i hinv
 refine R5 ?_
 refine A6 (A0 rfl) ?_ ?_
 ·intro h8
  have k8 := of_decide_eq_true h8; try simp only [A5] at k8
  have hlt : i < s.length := by have := of_decide_eq_true h8; omega
  obtain ⟨c, hc⟩ := E7 hlt
  have hsl := AT3 (s.take i)
  have hcl := c.toNat_lt
  refine R10 ?_
  refine A2 rfl (p5 rfl D6 (A0 rfl) qz1) ?_
  refine R2 ?_
  refine A2 rfl (X3 rfl C3 (A0 rfl) (A0 rfl) qz5 (by first | exact hc | (rw [Int.toNat_natCast]; exact hc))) ?_
  refine A2 rfl (Q2 rfl F9 Q7 (A0 rfl)) ?_
  rw [Ak5]
  refine R2 ?_
  refine A2 rfl (u6 rfl (A0 rfl) D6 B5) ?_
  refine R6 ?_
  refine J2 i (i + 1) ?_ ?_ (G7 ⟨congrArg (fun z => some (AV.int z)) (Ar7 hc), rfl, rfl, rfl, rfl, trivial⟩)
  ·omega
  omega
 intro h8
 have k8 := of_decide_eq_false h8; try simp only [A5] at k8
 have hge : s.length ≤ i := by have := of_decide_eq_false h8; omega
 rw [List.take_of_length_le hge]
 refine R7 ?_
 exact F0 rfl (A4 rfl B1)
theorem BF1 (s : Str) (hs : s.length ≤ 4611686018427387904) : C0 Tryz.prog 113 [AV.str s] (AV.int (sumB s)) := by
 refine B3 Tryz.func113 rfl Tryz.ntmps113 rfl ?_
 refine R14 ?_
 refine H7 [(0, _), (2, _)] _ (fun (i : Nat) => i ≤ s.length) (fun (i : Nat) => []) (fun (i : Nat) => [(3, AV.int (sumB (s.take i))), (4, AV.int i)]) (fun (i : Nat) => s.length - i) (0) ?_ (G7 ⟨rfl, rfl, rfl, rfl, trivial⟩) ?_
 ·exact Nat.zero_le _
 intro i hinv
 refine R8 ?_
 refine A6 (A0 rfl) ?_ ?_
 ·intro h8
  have k8 := of_decide_eq_true h8; try simp only [A5] at k8
  have hlt : i < s.length := by have := of_decide_eq_true h8; omega
  obtain ⟨c, hc⟩ := E7 hlt
  have hsl := AT3 (s.take i)
  have hcl := c.toNat_lt
  refine R5 ?_
  refine A2 rfl (p5 rfl D6 (A0 rfl) qz1) ?_
  refine R2 ?_
  refine A2 rfl (X3 rfl C3 (A0 rfl) (A0 rfl) qz5 (by first | exact hc | (rw [Int.toNat_natCast]; exact hc))) ?_
  refine A2 rfl (Q2 rfl F9 Q7 (A0 rfl)) ?_
  rw [Ak5]
  refine R2 ?_
  refine A2 rfl (u6 rfl (A0 rfl) D6 B5) ?_
  refine R7 ?_
  refine J2 i (i + 1) ?_ ?_ (G7 ⟨congrArg (fun z => some (AV.int z)) (Ar7 hc), rfl, rfl, rfl, trivial⟩)
  ·omega
  omega
 intro h8
 have k8 := of_decide_eq_false h8; try simp only [A5] at k8
 have hge : s.length ≤ i := by have := of_decide_eq_false h8; omega
 rw [List.take_of_length_le hge]
 refine R7 ?_
 exact F0 rfl (A4 rfl B1)
theorem AF3 (s : Str) (hs : s.length ≤ 4611686018427387903) : C0 Tryz.prog 68 [AV.str s] (AV.str (L9 s)) := by
  have hsb := AT3 s
  refine B3 Tryz.func68 rfl Tryz.ntmps68 rfl ?_
  refine R2 ?_
  refine A2 rfl (E2 rfl (D4 (l := []) rfl)) ?_
  refine R4 ?_
  refine A2 rfl (A8 rfl Tryz.call104 rfl (BF0 _ M5) (A1 (A0 rfl) A3)) ?_
  refine R3 ?_
  obtain ⟨m, hm⟩ : ∃ m, sumB s = m := ⟨_, rfl⟩
  rw [hm] at hsb ⊢
  refine R3 ?_
  refine A2 rfl (Ao2 rfl (A0 rfl) D6 B5 B5) ?_
  refine A2 rfl (Q2 rfl F9 H3 (A0 rfl)) ?_
  refine R1 ?_
  refine A2 rfl (Ao2 rfl (A0 rfl) D6 B5 B5) ?_
  refine A2 rfl (Q2 rfl F9 H3 (A0 rfl)) ?_
  refine R1 ?_
  refine A2 rfl (Q2 rfl F9 H3 (A0 rfl)) ?_
  rw [thr16 m qz5, thr8 m qz5, thr0 m]
  refine R1 ?_
  refine A2 rfl (Af6 (bs := AD8 m) rfl H1 H3 C3 (A0 rfl)) ?_
  refine A2 rfl (J7 rfl (A0 rfl) (A0 rfl) (by unfold AD8; simp only [E6, I4]; omega)) ?_
  refine R3 ?_
  exact F0 rfl (A4 rfl (by exact congrArg AV.str (by unfold L9; rw [hm])))
theorem Ar8 (m : Nat) (hm : m < 16777216) : C0 Tryz.prog 112 [AV.int m] (AV.str (AD8 m)) := by
  refine B3 Tryz.func112 rfl Tryz.ntmps112 rfl ?_
  refine R2 ?_
  refine A2 rfl (E2 rfl (D4 (l := []) rfl)) ?_
  refine R4 ?_
  refine A2 rfl (Ao1 rfl (A0 rfl) D6 B5) ?_
  refine A2 rfl (Q2 rfl F9 H3 (A0 rfl)) ?_
  refine R1 ?_
  refine A2 rfl (Ao1 rfl (A0 rfl) D6 B5) ?_
  refine A2 rfl (u6 rfl (A0 rfl) D6 B5) ?_
  refine A2 rfl (Q2 rfl F9 H3 (A0 rfl)) ?_
  refine R1 ?_
  refine A2 rfl (u6 rfl (A0 rfl) D6 B5) ?_
  refine A2 rfl (Q2 rfl F9 H3 (A0 rfl)) ?_
  rw [div16 m hm, div8 m hm, div0 m]
  refine R1 ?_
  refine A2 rfl (Af6 (bs := AD8 m) rfl H1 H3 C3 (A0 rfl)) ?_
  refine R3 ?_
  exact F0 rfl (A4 rfl B1)
theorem AG9 (s : Str) (hs : s.length ≤ 4611686018427387903) : C0 Tryz.prog 85 [AV.str s] (AV.str (L9 s)) := by
  have hsb := AT3 s
  refine B3 Tryz.func85 rfl Tryz.ntmps85 rfl ?_
  refine R2 ?_
  refine A2 rfl (E2 rfl (D4 (l := []) rfl)) ?_
  refine R5 ?_
  refine A2 rfl (A8 rfl Tryz.call113 rfl (BF1 _ M5) (A1 (A0 rfl) A3)) ?_
  refine A2 rfl (A8 rfl Tryz.call112 rfl (Ar8 (sumB s) qz5) (A1 (A0 rfl) A3)) ?_
  refine A2 rfl (J7 rfl (A0 rfl) (A0 rfl) (by unfold AD8; simp only [E6, I4]; omega)) ?_
  refine R3 ?_
  exact F0 rfl (A4 rfl B1)
end Go.Proofs.YtkibefcceekmnaaGreat
namespace Go.M
open Go.AV
structure J6 where
  p : Nat
  seed : Int
def AI6 (l : List Int) : AV := AV.list 1 (l.map fun x => [AV.ik .u8 x])
def L6 (code : List Int) (c : J6) : List AV := [AI6 code, AV.int c.p, AV.ik .u64 c.seed]
def Q6 (code : List Int) : Prop := ∀ x ∈ code, 0 ≤ x ∧ x ≤ 255
theorem byteL_of {l : List Int} (h : ∀ x ∈ l, (Lit.int .u8 x).wf = true) : Q6 l := fun x hx => by
  have := h x hx
  simp only [Lit.wf, IntKind.min, IntKind.max, IntKind.signed, IntKind.bits] at this
  simp at this
  omega
theorem AT7 {x : Int} (h : 0 ≤ x ∧ x ≤ 255) : IntKind.i64.wrap x = x := AN4 qz5
theorem a6 (x : Int) : 0 ≤ bandI x 255 ∧ bandI x 255 ≤ 255 := by
  unfold bandI
  have h1 : (BitVec.ofInt IntKind.u64.bits x &&& BitVec.ofInt IntKind.u64.bits 255).toNat ≤ 255 := by
    rw [BitVec.toNat_and]
    exact Nat.le_trans Nat.and_le_right B5
  generalize (BitVec.ofInt IntKind.u64.bits x &&& BitVec.ofInt IntKind.u64.bits 255).toNat = n at h1
  unfold IntKind.wrap
  simp [IntKind.bits, IntKind.signed]
  omega
end Go.M
namespace Go.Proofs.YtkibefcceekmnaaGreat
open Go Go.AV Go.M
attribute [local irreducible] OpW OpA OpS AWP C0 I0 D7 OpE RetOk G3 H5 Le Ev F6 J1 Int.tmod IntKind.wrap bandI
theorem AW3 (b : Nat) (code : List Int) (hcode : Q6 code) (c : J6) (hp : c.p ≤ 8000000) : D7 Tryz.prog 54 [AV.ptr b 0] [.box b 47 (L6 code c)] (fun x : J6 × Int => x.1.p ≤ c.p + 1 ∧ 0 ≤ x.2 ∧ x.2 ≤ 255) (fun x => [.box b 47 (L6 code x.1)]) (fun x => AV.int x.2) := by
 have hcb := hcode
 refine D1 Tryz.func54 rfl Tryz.ntmps54 rfl ?_
 refine R6 ?_
 try rw [AT7 hzb]
 refine R16 ?_
 refine A6 (A0 rfl) ?_ ?_
 ·intro h13
  have k13 := of_decide_eq_true h13; try simp only [A5] at k13
  obtain ⟨z, hz⟩ := E7 (show c.p < code.length by omega)
  have hzb := hcb z (C6 hz)
  refine R9 ?_
  refine A9 rfl rfl (F1 rfl H1 f0 (A0 rfl) (A0 rfl) hz rfl) ?_
  refine R1 ?_
  refine A9 rfl rfl (Q2 rfl F9 Q7 (A0 rfl)) ?_
  try rw [AT7 hzb]
  refine R20 ?_
  refine A2 rfl (w_mul rfl (A0 rfl) D6) ?_
  refine R1 ?_
  refine A2 rfl (Q2 rfl F9 Tryz.underlying45 (A0 rfl)) ?_
  refine A2 rfl (AS6 rfl (A0 rfl) (A0 rfl)) ?_
  refine A2 rfl (AS6 rfl (A0 rfl) D6) ?_
  refine R18 ?_
  refine A6 (A0 rfl) ?_ ?_
  ·intro h53
   have k53 := of_decide_eq_true h53; try simp only [A5] at k53
   refine R6 ?_
   (refine E4 [0] ((⟨c.p + 1, _⟩, _)) ?_ rfl qz7 (H4 rfl (A4 rfl U5)); first | exact ⟨Nat.le_refl _, hzb⟩ | exact ⟨Nat.le_refl _, Int.le_refl 0, (show (0 : Int) ≤ 255 by decide)⟩ | (rw [AT7 (a6 _)]; exact ⟨Nat.le_refl _, a6 _⟩))
  intro h53
  have k53 := of_decide_eq_false h53; try simp only [A5] at k53
  refine R7 ?_
  refine A2 rfl (Ao2 rfl (A0 rfl) D6 B5 B5) ?_
  refine A2 rfl (w_band rfl (A0 rfl) D6) ?_
  refine A2 rfl (Q2 rfl F9 Q7 (A0 rfl)) ?_
  refine R3 ?_
  (refine E4 [0] ((⟨c.p + 1, _⟩, _)) ?_ rfl qz7 (H4 rfl (A4 rfl U5)); first | exact ⟨Nat.le_refl _, hzb⟩ | exact ⟨Nat.le_refl _, Int.le_refl 0, (show (0 : Int) ≤ 255 by decide)⟩ | (rw [AT7 (a6 _)]; exact ⟨Nat.le_refl _, a6 _⟩))
 intro h13
 have k13 := of_decide_eq_false h13; try simp only [A5] at k13
 refine R19 ?_
 refine A2 rfl (w_mul rfl (A0 rfl) D6) ?_
 refine R1 ?_
 refine A2 rfl (Q2 rfl F9 Tryz.underlying45 (A0 rfl)) ?_
 refine A2 rfl (AS6 rfl (A0 rfl) (A0 rfl)) ?_
 refine A2 rfl (AS6 rfl (A0 rfl) D6) ?_
 refine R18 ?_
 refine A6 (A0 rfl) ?_ ?_
 ·intro h53
  have k53 := of_decide_eq_true h53; try simp only [A5] at k53
  refine R6 ?_
  (refine E4 [0] ((⟨c.p + 1, _⟩, _)) ?_ rfl qz7 (H4 rfl (A4 rfl U5)); first | exact ⟨Nat.le_refl _, hzb⟩ | exact ⟨Nat.le_refl _, Int.le_refl 0, (show (0 : Int) ≤ 255 by decide)⟩ | (rw [AT7 (a6 _)]; exact ⟨Nat.le_refl _, a6 _⟩))
 intro h53
 have k53 := of_decide_eq_false h53; try simp only [A5] at k53
 refine R7 ?_
 refine A2 rfl (Ao2 rfl (A0 rfl) D6 B5 B5) ?_
 refine A2 rfl (w_band rfl (A0 rfl) D6) ?_
 refine A2 rfl (Q2 rfl F9 Q7 (A0 rfl)) ?_
 refine R3 ?_
 (refine E4 [0] ((⟨c.p + 1, _⟩, _)) ?_ rfl qz7 (H4 rfl (A4 rfl U5)); first | exact ⟨Nat.le_refl _, hzb⟩ | exact ⟨Nat.le_refl _, Int.le_refl 0, (show (0 : Int) ≤ 255 by decide)⟩ | (rw [AT7 (a6 _)]; exact ⟨Nat.le_refl _, a6 _⟩))
theorem I5 (b : Nat) (code : List Int) (hcode : Q6 code) (c : J6) (n : Int) (hn : n ≤ 1000000) (hp : c.p ≤ 7000000) : D7 Tryz.prog 22 [AV.ptr b 0, AV.int n] [.box b 47 (L6 code c)] (fun x : J6 × Int => x.1.p ≤ c.p + 2 ∧ 0 ≤ x.2 ∧ (x.2 < n ∨ x.2 = 0)) (fun x => [.box b 47 (L6 code x.1)]) (fun x => AV.int x.2) := by
 refine D1 Tryz.func22 rfl Tryz.ntmps22 rfl ?_
 refine R10 ?_
 refine A6 (A0 rfl) ?_ ?_
 ·intro h7
  have k7 := of_decide_eq_true h7; try simp only [A5] at k7
  refine R5 ?_
  (refine E4 [0] ((_, _)) ?_ rfl qz7 (H4 rfl (A4 rfl U5)); (dsimp only; first | omega | exact ⟨by omega, Int.tmod_nonneg _ qz5, .inl (Int.tmod_lt_of_pos _ qz5)⟩))
 intro h7
 have k7 := of_decide_eq_false h7; try simp only [A5] at k7
 refine R4 ?_
 refine B6 [0] rfl rfl rfl rfl Tryz.call54 rfl (AW3 _ _ hcode _ qz5) (A1 (A0 rfl) A3) rfl ?_
 intro x9 ok9
 refine R8 ?_
 refine A6 (A0 rfl) ?_ ?_
 ·intro h11
  have k11 := of_decide_eq_true h11; try simp only [A5] at k11
  refine R2 ?_
  refine A2 rfl (p5 rfl (A0 rfl) D6 qz1) ?_
  refine R1 ?_
  refine B6 [0] rfl rfl rfl rfl Tryz.call54 rfl (AW3 _ _ hcode _ qz5) (A1 (A0 rfl) A3) rfl ?_
  intro x15 ok15
  refine R7 ?_
  refine A2 rfl (u6 rfl (A0 rfl) (A0 rfl) qz5) ?_
  refine R3 ?_
  (refine E4 [0] ((_, _)) ?_ rfl qz7 (H4 rfl (A4 rfl U5)); (dsimp only; first | omega | exact ⟨by omega, Int.tmod_nonneg _ qz5, .inl (Int.tmod_lt_of_pos _ qz5)⟩))
 intro h11
 have k11 := of_decide_eq_false h11; try simp only [A5] at k11
 refine R5 ?_
 refine A2 rfl (u6 rfl (A0 rfl) (A0 rfl) qz5) ?_
 refine R3 ?_
 (refine E4 [0] ((_, _)) ?_ rfl qz7 (H4 rfl (A4 rfl U5)); (dsimp only; first | omega | exact ⟨by omega, Int.tmod_nonneg _ qz5, .inl (Int.tmod_lt_of_pos _ qz5)⟩))
theorem q9 (b : Nat) (code : List Int) (hcode : Q6 code) (c : J6) (n : Int) (hn : n ≤ 1000000) (hp : c.p ≤ 7000000) : D7 Tryz.prog 37 [AV.ptr b 0, AV.int n] [.box b 47 (L6 code c)] (fun x : J6 × Bool => x.1.p ≤ c.p + 2) (fun x => [.box b 47 (L6 code x.1)]) (fun x => AV.bool x.2) := by
  refine D1 Tryz.func37 rfl Tryz.ntmps37 rfl ?_
  refine R8 ?_
  refine B6 [0] rfl rfl rfl rfl Tryz.call22 rfl (I5 _ _ hcode _ _ qz5 qz5) (A1 (A0 rfl) (A1 (A0 rfl) A3)) rfl ?_
  intro x7 ok7
  refine R4 ?_
  (refine E4 [0] ((_, _)) ?_ rfl qz7 (H4 rfl (A4 rfl B1)); exact ok7.1)
theorem AQ8 (b : Nat) (code : List Int) (hcode : Q6 code) (c : J6) (l : List Str) (hl : (∀ s ∈ l, s.length ≤ 64) ∧ 1 ≤ l.length ∧ l.length ≤ 1000) (hp : c.p ≤ 7000000) : D7 Tryz.prog 57 [AV.ptr b 0, strs l] [.box b 47 (L6 code c)] (fun x : J6 × Str => x.1.p ≤ c.p + 2 ∧ x.2.length ≤ 64) (fun x => [.box b 47 (L6 code x.1)]) (fun x => AV.str x.2) := by
  obtain ⟨hls, hl1, hl2⟩ := hl
  refine D1 Tryz.func57 rfl Tryz.ntmps57 rfl ?_
  refine R2 ?_
  refine A2 rfl (E2 rfl (D4 (l := []) rfl)) ?_
  refine R7 ?_
  refine B6 [0] rfl rfl rfl rfl Tryz.call22 rfl (I5 _ _ hcode _ _ AI7 qz5) (A1 (A0 rfl) (A1 (A0 rfl) A3)) rfl ?_
  intro x9 ok9
  simp only [A5] at ok9
  obtain ⟨y, hy⟩ := E7 (show x9.2.toNat < l.length by omega)
  refine A2 rfl (F1 rfl C5 G2 (A0 rfl) (A0 rfl) hy qz5) ?_
  refine R4 ?_
  (refine E4 [0] ((_, _)) ?_ rfl qz7 (H4 rfl (A4 rfl B1)); exact ⟨ok9.1, hls _ (C6 hy)⟩)
theorem i4 (b : Nat) (code : List Int) (hcode : Q6 code) (c : J6) (l : List Int) (hl : 1 ≤ l.length ∧ l.length ≤ 1000) (hp : c.p ≤ 7000000) : D7 Tryz.prog 35 [AV.ptr b 0, ints l] [.box b 47 (L6 code c)] (fun x : J6 × Int => x.1.p ≤ c.p + 2 ∧ x.2 ∈ l) (fun x => [.box b 47 (L6 code x.1)]) (fun x => AV.int x.2) := by
  obtain ⟨hl1, hl2⟩ := hl
  refine D1 Tryz.func35 rfl Tryz.ntmps35 rfl ?_
  refine R10 ?_
  refine B6 [0] rfl rfl rfl rfl Tryz.call22 rfl (I5 _ _ hcode _ _ AI7 qz5) (A1 (A0 rfl) (A1 (A0 rfl) A3)) rfl ?_
  intro x9 ok9
  simp only [A5] at ok9
  obtain ⟨y, hy⟩ := E7 (show x9.2.toNat < l.length by omega)
  refine A2 rfl (F1 rfl Tryz.underlying76 Tryz.sizeOf3 (A0 rfl) (A0 rfl) hy qz5) ?_
  refine R4 ?_
  (refine E4 [0] ((_, _)) ?_ rfl qz7 (H4 rfl (A4 rfl B1)); exact ⟨ok9.1, C6 hy⟩)
theorem BF2 (b : Nat) (code : List Int) (hcode : Q6 code) (c : J6) (hp : c.p ≤ 6000000) : D7 Tryz.prog 70 [AV.ptr b 0] [.box b 47 (L6 code c)] (fun x : J6 × Str => x.1.p ≤ c.p + 2 ∧ x.2.length ≤ 64) (fun x => [.box b 47 (L6 code x.1)]) (fun x => AV.str x.2) := by
  refine D1 Tryz.func70 rfl Tryz.ntmps70 rfl ?_
  refine R2 ?_
  refine A2 rfl (E2 rfl (D4 (l := []) rfl)) ?_
  refine R4 ?_
  refine A2 rfl (m5 rfl C5 G2 Tryz.zeroValue9 rfl rfl rfl rfl (E1 (D4 (l := [97]) rfl) (K6 _) (E1 (D4 (l := [98]) rfl) (K6 _) (E1 (D4 (l := [99]) rfl) (K6 _) (E1 (D4 (l := [109]) rfl) (K6 _) (E1 (D4 (l := [110]) rfl) (K6 _) (E1 (D4 (l := [122]) rfl) (K6 _) (E1 (D4 (l := [114, 47, 49]) rfl) (K6 _) (E1 (D4 (l := [105, 47, 120, 47, 49]) rfl) (K6 _) O8)))))))) rfl rfl) ?_
  refine B6 [0] rfl rfl rfl rfl Tryz.call57 rfl (AQ8 _ _ hcode _ ([[97], [98], [99], [109], [110], [122], [114, 47, 49], [105, 47, 120, 47, 49]] : List Str) B5 qz5) (A1 (A0 rfl) (A1 (A0 rfl) A3)) rfl ?_
  intro x5 ok5
  refine R3 ?_
  (refine E4 [0] ((_, _)) ?_ rfl qz7 (H4 rfl (A4 rfl B1)); exact ok5)
end Go.Proofs.YtkibefcceekmnaaGreat
namespace Go.Proofs.YtkibefcceekmnaaGreat
open Go Go.AV Go.M
attribute [local irreducible] OpW OpA OpS AWP C0 I0 D7 OpE RetOk G3 H5 Le Ev F6 J1
end Go.Proofs.YtkibefcceekmnaaGreat
namespace Go.Proofs.YtkibefcceekmnaaGreat
open Go Go.AV Go.M
attribute [local irreducible] OpW OpA OpS AWP C0 I0 D7 OpE RetOk G3 H5 Le Ev F6 J1 Int.tmod Int.tdiv IntKind.wrap bandI
theorem AB4 (q : Nat) (b : Str) (s : E0) (hs : s.at' ≤ b.length) (hb : b.length ≤ 1048576) : D7 Tryz.prog 101 [AV.ptr q 0] [.box q 130 (T8 b s)] (fun x : E0 × Str => Y6 b s x) (fun x => [.box q 130 (T8 b x.1)]) (fun x => AV.str x.2) := by
 refine D1 Tryz.func101 rfl Tryz.ntmps101 rfl ?_
 refine R2 ?_
 refine A2 rfl (E2 rfl (D4 (l := []) rfl)) ?_
 refine R4 ?_
 refine B6 [0] rfl rfl rfl rfl Tryz.call97 rfl (Y2 q b s hs hb) (A1 (A0 rfl) A3) rfl ?_
 intro x5 ok5
 obtain ⟨hk1, hk2⟩ := textOk_s hs ok5
 have hn9 := ok5.2.1
 have ha9 := ok5.1.2
 refine R19 ?_
 refine M3 rfl (O7 rfl rfl rfl) (fun hc => AN5 rfl (B0 rfl hc) (B0 rfl hc) qz5) ?_
 refine R8 ?_
 refine A6 (A0 rfl) ?_ ?_
 ·intro h27
  have hok := hk1 h27
  refine R9 ?_
  refine A2 rfl (E2 rfl (D4 (l := []) rfl)) ?_
  refine R2 ?_
  (refine E4 [0] ((⟨x5.1.at', true⟩, [])) ?_ rfl Ae6 (H4 rfl (A4 rfl qz31)); exact hok)
 intro h27
 obtain ⟨hok, hbf, hle, hn60⟩ := hk2 h27
 have hbe : x5.1 = ⟨x5.1.at', false⟩ := by (obtain ⟨⟨xa, xb⟩, xn⟩ := x5; simp only at hbf ⊢; rw [hbf])
 refine R29 ?_
 refine A9 rfl rfl (a9 rfl C3 (A0 rfl) (A0 rfl) (A0 rfl) qz1 qz1 qz1) ?_
 refine R3 ?_
 (refine E4 [0] ((⟨x5.1.at' + x5.2, false⟩, (b.drop x5.1.at').take x5.2)) ?_ rfl Ae6 (H4 rfl (A4 rfl qz31)); exact hok)
theorem Av9 (q : Nat) (b : Str) (s : E0) (hs : s.at' ≤ b.length) (hb : b.length ≤ 1048576) : D7 Tryz.prog 100 [AV.ptr q 0] [.box q 130 (T8 b s)] (fun x : E0 × List Str × Value => U4 b s x.1 x.2.1) (fun x => [.box q 130 (T8 b x.1), .arr x.2.2 9 1 (x.2.1.map fun t => [AV.str t])]) (fun x => AV.is x.2.2) := by
 refine D1 Tryz.func100 rfl Tryz.ntmps100 rfl ?_
 refine R2 ?_
 refine A2 rfl (E2 rfl W5) ?_
 refine R4 ?_
 refine B6 [0] rfl rfl rfl rfl Tryz.call97 rfl (Y2 q b s hs hb) (A1 (A0 rfl) A3) rfl ?_
 intro x6 ok6
 obtain ⟨N, hN⟩ : ∃ N, x6.2 = N := ⟨_, rfl⟩
 rw [hN]
 refine R8 ?_
 refine A6 (A0 rfl) ?_ ?_
 ·intro h8
  have k8 := of_decide_eq_true h8; try simp only [A5] at k8
  have hrun := Aj7 ok6 qz5 N
  obtain ⟨t0, ht0⟩ : ∃ t0, (⟨x6.1.at', true⟩ : E0) = t0 := ⟨_, rfl⟩
  rw [ht0] at hrun
  have hsmall : (t0.bad = false → ([] : List Str).length + N ≤ 40) := fun h => by (rw [← ht0] at h; cases h)
  refine R8 ?_
  refine AE3 9 1 rfl rfl rfl rfl W5 ?_
  intro v4
  refine R3 ?_
  refine AWP.le (H6 [1, 0] rfl) ?_
  refine T0 [(0, _), (2, _)] _ (fun (t : E0) (m : Nat) (l : List Str) (v : Value) => w9 b s t l m ∧ (t.bad = false → l.length + m ≤ 40) ∧ l.length ≤ 41) (fun (t : E0) (m : Nat) (l : List Str) (v : Value) => [.box q 130 (T8 b t), .arr v 9 1 (l.map fun t => [AV.str t])]) (fun (t : E0) (m : Nat) (l : List Str) (v : Value) => [(3, AV.int m), (4, AV.is v)]) (fun (t : E0) (m : Nat) (l : List Str) (v : Value) => m) (t0) (N) ([]) (v4) ?_ (J5 (by rw [← ht0]; rfl) ⟨rfl, rfl, rfl, rfl, trivial⟩) ?_
  ·exact ⟨hrun, hsmall, by simp⟩
  intro t m l v hinv
  refine R13 ?_
  refine A6 (A0 rfl) ?_ ?_
  ·intro h20
   simp only [Bool.and_eq_true, decide_eq_true_eq, Bool.not_eq_true'] at h20
   obtain ⟨hi, hnb⟩ := h20
   have hN4 := hinv.2.1 hnb
   have htb := hinv.1.1.2
   have hm1 : ((m : Nat) : Int) - 1 = ((m - 1 : Nat) : Int) := by omega
   refine R6 ?_
   refine B6 [0] rfl rfl rfl rfl Tryz.call101 rfl (AB4 q b t htb hb) (A1 (A0 rfl) A3) rfl ?_
   intro x25 ok25
   refine R1 ?_
   refine J0 (by' := 16) 1 rfl rfl rfl rfl C5 Tryz.type9 rfl rfl rfl rfl rfl rfl (A0 rfl) (A0 rfl) rfl qz1 ?_
   intro v27_1
   refine R7 ?_
   refine Q1 t m l v (x25.1) (m - 1) (l ++ [x25.2]) (v27_1) ?_ ?_ (J5 AG1 ⟨congrArg (fun z => some (AV.int z)) hm1, rfl, rfl, rfl, trivial⟩)
   ·exact ⟨AB3 (m := m - 1) (by rw [show m - 1 + 1 = m by omega]; exact hinv.1) hnb ok25, fun _ => (by simp only [D5, E6, I4]; omega), by simp only [D5, E6, I4]; omega⟩
   omega
  intro h20
  have hok : U4 b s t l := by (cases htb : t.bad with | true => exact AF1 hinv.1 htb | false => (rw [htb] at h20; simp at h20; have h9 := hinv.1; rw [show m = 0 by omega] at h9; exact AF0 h9))
  refine R7 ?_
  (refine E4 [0, 0] ((t, l, v)) ?_ rfl qz7 (H4 rfl (A4 rfl B1)); exact hok)
 intro h8
 have k8 := of_decide_eq_false h8; try simp only [A5] at k8
 have hrun := AV4 ok6 qz5
 rw [hN] at hrun
 obtain ⟨t0, ht0⟩ : ∃ t0, x6.1 = t0 := ⟨_, rfl⟩
 rw [ht0] at hrun
 have hsmall : (t0.bad = false → ([] : List Str).length + N ≤ 40) := fun _ => by (simp; omega)
 refine R3 ?_
 refine AE3 9 1 rfl rfl rfl rfl W5 ?_
 intro v4
 refine R3 ?_
 refine AWP.le (H6 [1, 0] rfl) ?_
 refine T0 [(0, _), (2, _)] _ (fun (t : E0) (m : Nat) (l : List Str) (v : Value) => w9 b s t l m ∧ (t.bad = false → l.length + m ≤ 40) ∧ l.length ≤ 41) (fun (t : E0) (m : Nat) (l : List Str) (v : Value) => [.box q 130 (T8 b t), .arr v 9 1 (l.map fun t => [AV.str t])]) (fun (t : E0) (m : Nat) (l : List Str) (v : Value) => [(3, AV.int m), (4, AV.is v)]) (fun (t : E0) (m : Nat) (l : List Str) (v : Value) => m) (t0) (N) ([]) (v4) ?_ (J5 (by rw [← ht0]; rfl) ⟨rfl, rfl, rfl, rfl, trivial⟩) ?_
 ·exact ⟨hrun, hsmall, by simp⟩
 intro t m l v hinv
 refine R13 ?_
 refine A6 (A0 rfl) ?_ ?_
 ·intro h20
  simp only [Bool.and_eq_true, decide_eq_true_eq, Bool.not_eq_true'] at h20
  obtain ⟨hi, hnb⟩ := h20
  have hN4 := hinv.2.1 hnb
  have htb := hinv.1.1.2
  have hm1 : ((m : Nat) : Int) - 1 = ((m - 1 : Nat) : Int) := by omega
  refine R6 ?_
  refine B6 [0] rfl rfl rfl rfl Tryz.call101 rfl (AB4 q b t htb hb) (A1 (A0 rfl) A3) rfl ?_
  intro x25 ok25
  refine R1 ?_
  refine J0 (by' := 16) 1 rfl rfl rfl rfl C5 Tryz.type9 rfl rfl rfl rfl rfl rfl (A0 rfl) (A0 rfl) rfl qz1 ?_
  intro v27_2
  refine R7 ?_
  refine Q1 t m l v (x25.1) (m - 1) (l ++ [x25.2]) (v27_2) ?_ ?_ (J5 AG1 ⟨congrArg (fun z => some (AV.int z)) hm1, rfl, rfl, rfl, trivial⟩)
  ·exact ⟨AB3 (m := m - 1) (by rw [show m - 1 + 1 = m by omega]; exact hinv.1) hnb ok25, fun _ => (by simp only [D5, E6, I4]; omega), by simp only [D5, E6, I4]; omega⟩
  omega
 intro h20
 have hok : U4 b s t l := by (cases htb : t.bad with | true => exact AF1 hinv.1 htb | false => (rw [htb] at h20; simp at h20; have h9 := hinv.1; rw [show m = 0 by omega] at h9; exact AF0 h9))
 refine R7 ?_
 (refine E4 [0, 0] ((t, l, v)) ?_ rfl qz7 (H4 rfl (A4 rfl B1)); exact hok)
theorem AM4 (b : Str) (at' : Int) (hb : b.length ≤ 1048576) : C0 Tryz.prog 60 [AV.str b, AV.int at'] (AV.tup [AV.int (readNumR b at').1, AV.int (readNumR b at').2.1, AV.bool (readNumR b at').2.2]) := by
 refine B3 Tryz.func60 rfl Tryz.ntmps60 rfl ?_
 refine R11 ?_
 refine A2 rfl (A8 rfl Tryz.call96 rfl (Ar5 _ _) (A1 (A0 rfl) (A1 (A0 rfl) A3))) ?_
 refine R2 ?_
 refine A6 (A0 rfl) ?_ ?_
 ·intro h12
  have he : readNumR b at' = (0, 0, false) := by (unfold readNumR; exact if_pos (show (!placeB b at') = true from h12))
  rw [he]
  refine R7 ?_
  exact L3 rfl B5 (A7 (A4 rfl B1) (A7 (A4 rfl B1) (A7 (A4 rfl B1) D0)))
 intro h12
 have hp : placeB b at' = true := by (have h9 : (!placeB b at') = false := h12; simpa using h9)
 obtain ⟨hl, h0, h1⟩ := BD1 hp
 obtain ⟨k, rfl⟩ : ∃ k : Nat, at' = (k : Int) := ⟨at'.toNat, by omega⟩
 have hef := Av0 hp
 refine R7 ?_
 intro b16
 refine R5 ?_
 refine B6 [0] rfl rfl rfl rfl Tryz.call97 rfl (Y2 b16 b ⟨k, false⟩ (by show k ≤ b.length; omega) hb) (A1 (A0 rfl) A3) rfl ?_
 intro x18 ok18
 refine R10 ?_
 refine A6 (A0 rfl) ?_ ?_
 ·intro h22
  have he : readNumR b k = (0, 0, false) := by (have h9 := z4 ok18 h22; rw [AY4] at h9; rw [hef, h9])
  rw [he]
  refine R7 ?_
  exact L3 rfl B5 (A7 (A4 rfl B1) (A7 (A4 rfl B1) (A7 (A4 rfl B1) D0)))
 intro h22
 obtain ⟨n, j, hn, hx⟩ := c0 ok18 h22
 rw [AY4] at hn
 have he : readNumR b k = ((n : Int), (k : Int) + j, true) := by rw [hef, hn]
 rw [he, hx]
 refine R13 ?_
 exact L3 rfl B5 (A7 (A4 rfl B1) (A7 (A4 rfl B1) (A7 (A4 rfl B1) D0)))
end Go.Proofs.YtkibefcceekmnaaGreat
namespace Go.Proofs.YtkibefcceekmnaaGreat
open Go Go.AV Go.M
attribute [local irreducible] OpW OpA OpS AWP C0 I0 D7 OpE RetOk G3 H5 Le Ev F6 J1 Int.tmod Int.tdiv IntKind.wrap
theorem AH0 (n : Int) : C0 Tryz.prog 39 [AV.int n] (AV.bool (isTxnR n)) := by
  refine B3 Tryz.func39 rfl Tryz.ntmps39 rfl ?_
  refine R7 ?_
  refine A2 rfl (A8 rfl Tryz.call15 rfl (Y9 _ _ _) (A1 (A0 rfl) (A1 D6 (A1 D6 A3)))) ?_
  refine R3 ?_
  exact F0 rfl (A4 rfl B1)
theorem AM5 (b : Bool) : C0 Tryz.prog 77 [AV.bool b] (AV.str (flagB b)) := by
 refine B3 Tryz.func77 rfl Tryz.ntmps77 rfl ?_
 refine R2 ?_
 refine A2 rfl (E2 rfl (D4 (l := []) rfl)) ?_
 refine R6 ?_
 refine A6 (A0 rfl) ?_ ?_
 ·intro h3
  refine R2 ?_
  refine A2 rfl (E2 rfl (D4 (l := [1]) rfl)) ?_
  refine R2 ?_
  exact F0 rfl (A4 rfl qz54)
 intro h3
 refine R3 ?_
 refine A2 rfl (E2 rfl (D4 (l := [0]) rfl)) ?_
 refine R2 ?_
 exact F0 rfl (A4 rfl qz54)
theorem AW4 (b : Bool) : C0 Tryz.prog 82 [AV.bool b] (AV.str (flagB b)) := by
 refine B3 Tryz.func82 rfl Tryz.ntmps82 rfl ?_
 refine R2 ?_
 refine A2 rfl (E2 rfl (D4 (l := []) rfl)) ?_
 refine R6 ?_
 refine A6 (A0 rfl) ?_ ?_
 ·intro h3
  refine R2 ?_
  refine A2 rfl (E2 rfl (D4 (l := [1]) rfl)) ?_
  refine R2 ?_
  exact F0 rfl (A4 rfl qz54)
 intro h3
 refine R3 ?_
 refine A2 rfl (E2 rfl (D4 (l := [0]) rfl)) ?_
 refine R2 ?_
 exact F0 rfl (A4 rfl qz54)
theorem i5 (t : Int) : C0 Tryz.prog 45 [AV.int t] (AV.bool (within t 1 100000)) := by
  refine B3 Tryz.func45 rfl Tryz.ntmps45 rfl ?_
  refine R7 ?_
  refine A2 rfl (A8 rfl Tryz.call18 rfl (M0 _ _ _) (A1 (A0 rfl) (A1 D6 (A1 D6 A3)))) ?_
  refine R3 ?_
  exact F0 rfl (A4 rfl U5)
theorem Ak6 {r : E8} (hs : r.size ≤ 1048576) : (∀ k ∈ r.Reads, k.length ≤ 4611686018427387904) ∧ sizeL B4.size r.Writes ≤ 1048576 ∧ r.Reads.length ≤ 1048576 ∧ r.Writes.length ≤ 1048576 := by
  unfold E8.size at hs
  have h1 := K2 (f := fun x : Str => x.length) (l := r.Reads)
  have h2 := K2 (f := B4.size) (l := r.Writes)
  exact ⟨fun k hk => by have := y8 (f := fun x : Str => x.length) hk; omega, by omega, by omega, by omega⟩
theorem AQ9 (r : E8) (hs : r.size ≤ 1048576) : C0 Tryz.prog 16 [AV.agg r.cs] (AV.bool (goodRec r)) := by
 obtain ⟨hr1, hr2, hr3, hr4⟩ := Ak6 hs
 refine B3 Tryz.func16 rfl Tryz.ntmps16 rfl ?_
 refine R3 ?_
 intro b1
 refine R33 ?_
 refine A6 (A0 rfl) ?_ ?_
 ·intro h21
  have k21 := F3 h21; try simp only [A5] at k21
  refine R4 ?_
  refine A2 rfl (A8 rfl Tryz.call39 rfl (AH0 _) (A1 (A0 rfl) A3)) ?_
  refine R3 ?_
  refine K1 rfl (fun hc => A8 rfl Tryz.call40 rfl (l8 _) (A1 (B0 rfl hc) A3)) ?_
  refine R4 ?_
  refine K1 rfl (fun hc => A8 rfl Tryz.call15 rfl (Y9 _ _ _) (A1 (B0 rfl hc) (A1 D6 (A1 D6 A3)))) ?_
  refine R10 ?_
  refine K1 rfl (fun hc => A8 rfl Tryz.call41 rfl (AI0 r.Reads hr1) (A1 (B0 rfl hc) A3)) ?_
  refine R10 ?_
  refine K1 rfl (fun hc => A8 rfl Tryz.call42 rfl (Ac6 r.Writes qz5) (A1 (B0 rfl hc) A3)) ?_
  refine R19 ?_
  exact F0 rfl (A4 rfl AX3)
 intro h21
 have k21 := F2 h21; try simp only [A5] at k21
 refine R6 ?_
 refine A6 (A0 rfl) ?_ ?_
 ·intro h73
  have k73 := F3 h73; try simp only [A5] at k73
  refine R1 ?_
  refine A6 (A0 rfl) ?_ ?_
  ·intro h73
   have k73 := F3 h73; try simp only [A5] at k73
   refine R6 ?_
   refine K1 rfl (fun hc => A8 rfl Tryz.call39 rfl (AH0 _) (A1 (B0 rfl hc) A3)) ?_
   refine R7 ?_
   refine X2 rfl rfl (S3 rfl rfl rfl) (fun hc => A8 rfl Tryz.call40 rfl (l8 _) (A1 (B0 rfl hc) A3)) ?_
   refine R15 ?_
   exact F0 rfl (A4 rfl AX3)
  intro h73
  have k73 := F2 h73; try simp only [A5] at k73
  refine R5 ?_
  refine A6 (A0 rfl) ?_ ?_
  ·intro h101
   have k101 := F3 h101; try simp only [A5] at k101
   refine R11 ?_
   refine K1 rfl (fun hc => A8 rfl Tryz.call40 rfl (l8 _) (A1 (B0 rfl hc) A3)) ?_
   refine R9 ?_
   exact F0 rfl (A4 rfl AX3)
  intro h101
  have k101 := F2 h101; try simp only [A5] at k101
  refine R6 ?_
  exact F0 rfl (A4 rfl AX3)
 intro h73
 have k73 := F2 h73; try simp only [A5] at k73
 refine R4 ?_
 refine A6 (A0 rfl) ?_ ?_
 ·intro h73
  have k73 := F3 h73; try simp only [A5] at k73
  refine R6 ?_
  refine K1 rfl (fun hc => A8 rfl Tryz.call39 rfl (AH0 _) (A1 (B0 rfl hc) A3)) ?_
  refine R7 ?_
  refine X2 rfl rfl (S3 rfl rfl rfl) (fun hc => A8 rfl Tryz.call40 rfl (l8 _) (A1 (B0 rfl hc) A3)) ?_
  refine R15 ?_
  exact F0 rfl (A4 rfl AX3)
 intro h73
 have k73 := F2 h73; try simp only [A5] at k73
 refine R5 ?_
 refine A6 (A0 rfl) ?_ ?_
 ·intro h101
  have k101 := F3 h101; try simp only [A5] at k101
  refine R11 ?_
  refine K1 rfl (fun hc => A8 rfl Tryz.call40 rfl (l8 _) (A1 (B0 rfl hc) A3)) ?_
  refine R9 ?_
  exact F0 rfl (A4 rfl AX3)
 intro h101
 have k101 := F2 h101; try simp only [A5] at k101
 refine R6 ?_
 exact F0 rfl (A4 rfl AX3)
theorem Aw0 (l : List Str) (hs : ∀ k ∈ l, k.length ≤ 4611686018427387904) : C0 Tryz.prog 46 [strs l] (AV.bool (l4Keys l)) := by
 refine B3 Tryz.func46 rfl Tryz.ntmps46 rfl ?_
 refine Z2 (t := 0) rfl fun hl => ?_
 try simp only [A5] at hl
 refine R12 ?_
 refine H7 [(0, _), (5, _), (6, _)] _ (fun (i : Nat) => i ≤ l.length ∧ (l.all l3Key && adj Op.bytesLess l) = ((l.drop i).all l3Key && adj Op.bytesLess (l.drop (i - 1)))) (fun (i : Nat) => []) (fun (i : Nat) => [(7, AV.int i)]) (fun (i : Nat) => l.length - i) (0) ?_ (G7 ⟨rfl, rfl, rfl, rfl, trivial⟩) ?_
 ·exact ⟨Nat.zero_le _, rfl⟩
 intro i hinv
 refine R5 ?_
 refine A6 (A0 rfl) ?_ ?_
 ·intro h8
  have k8 := of_decide_eq_true h8; try simp only [A5] at k8
  have hlt : i < l.length := by omega
  obtain ⟨x, hx⟩ := E7 hlt
  obtain ⟨y, hy⟩ := E7 (show i - 1 < l.length by omega)
  have hsx := hs x (C6 hx)
  refine R6 ?_
  refine A2 rfl (Ao3 rfl C5 G2 (A0 rfl) (A0 rfl) qz5 (by simp only [Int.toNat_natCast, List.getElem?_map, hx, Option.map_some]; try rfl)) ?_
  refine R7 ?_
  refine A2 rfl (A8 rfl Tryz.call80 rfl (Ac5 _ qz5) (A1 (A0 rfl) A3)) ?_
  refine R8 ?_
  refine X2 rfl rfl (S3 rfl rfl rfl) (fun hc => Ao3 rfl C5 G2 (B0 rfl hc) (B0 rfl hc) (by have := of_decide_eq_true (Ao0 hc); omega) (by have := of_decide_eq_true (Ao0 hc); rw [show ((i : Int) - 1).toNat = i - 1 by omega]; simp only [List.getElem?_map, hy, Option.map_some]; try rfl)) ?_
  refine R2 ?_
  refine X2 rfl rfl (S3 rfl rfl rfl) (fun hc => w_sgeq rfl (B0 rfl hc) (B0 rfl hc)) ?_
  refine R3 ?_
  refine A6 (A0 rfl) ?_ ?_
  ·intro h27
   have hfin : (l.all l3Key && adj Op.bytesLess l) = false := by rw [hinv.2, drop_some hx, List.all_cons]; cases hg : l3Key x with | false => simp | true => (simp only [hg, Bool.not_true, Bool.false_or, Bool.and_eq_true, decide_eq_true_eq, Bool.not_eq_true'] at h27; rw [AY0 hx hy qz5 h27.2]; simp)
   refine R5 ?_
   exact F0 rfl (A4 rfl qz39)
  intro h27
  refine R5 ?_
  refine J2 i (i + 1) ?_ ?_ (G7 ⟨rfl, rfl, rfl, rfl, trivial⟩)
  ·exact ⟨by omega, by rw [hinv.2, drop_some hx, List.all_cons, AX9 hx hy (fun h0 => by simp_all), show l3Key x = true by simp_all, Bool.true_and]⟩
  omega
 intro h8
 have k8 := of_decide_eq_false h8; try simp only [A5] at k8
 have hge : l.length ≤ i := by omega
 refine R9 ?_
 exact F0 rfl (A4 rfl qz39)
theorem AH1 (r : E8) (hs : r.size ≤ 1048576) : C0 Tryz.prog 19 [AV.agg r.cs] (AV.bool (l4Good r)) := by
 obtain ⟨hr1, hr2, hr3, hr4⟩ := Ak6 hs
 refine B3 Tryz.func19 rfl Tryz.ntmps19 rfl ?_
 refine R3 ?_
 intro b1
 refine R24 ?_
 refine A6 (A0 rfl) ?_ ?_
 ·intro h20
  have ho : AA8 r = true := by (unfold AA8; simpa using h20)
  refine R5 ?_
  exact F0 rfl (A4 rfl Af0)
 intro h20
 have ho : AA8 r = false := by (unfold AA8; simpa using h20)
 refine R13 ?_
 refine A6 (A0 rfl) ?_ ?_
 ·intro h23
  have k23 := F3 h23; try simp only [A5] at k23
  refine R4 ?_
  refine A2 rfl (A8 rfl Tryz.call18 rfl (M0 _ _ _) (A1 (A0 rfl) (A1 D6 (A1 D6 A3)))) ?_
  refine R3 ?_
  refine K1 rfl (fun hc => A8 rfl Tryz.call45 rfl (i5 _) (A1 (B0 rfl hc) A3)) ?_
  refine R4 ?_
  refine K1 rfl (fun hc => A8 rfl Tryz.call18 rfl (M0 _ _ _) (A1 (B0 rfl hc) (A1 D6 (A1 D6 A3)))) ?_
  refine R4 ?_
  refine K1 rfl (fun hc => A8 rfl Tryz.call46 rfl (Aw0 r.Reads hr1) (A1 (B0 rfl hc) A3)) ?_
  refine R4 ?_
  refine K1 rfl (fun hc => A8 rfl Tryz.call47 rfl (Am1 r.Writes qz5) (A1 (B0 rfl hc) A3)) ?_
  refine R5 ?_
  refine K1 rfl (fun hc => A8 rfl Tryz.call18 rfl (M0 _ _ _) (A1 (B0 rfl hc) (A1 D6 (A1 D6 A3)))) ?_
  refine R19 ?_
  exact F0 rfl (A4 rfl Af0)
 intro h23
 have k23 := F2 h23; try simp only [A5] at k23
 refine R6 ?_
 refine A6 (A0 rfl) ?_ ?_
 ·intro h69
  have k69 := F3 h69; try simp only [A5] at k69
  refine R1 ?_
  refine A6 (A0 rfl) ?_ ?_
  ·intro h69
   have k69 := F3 h69; try simp only [A5] at k69
   refine R4 ?_
   refine A2 rfl (A8 rfl Tryz.call18 rfl (M0 _ _ _) (A1 (A0 rfl) (A1 D6 (A1 D6 A3)))) ?_
   refine R6 ?_
   refine X2 rfl rfl (S3 rfl rfl rfl) (fun hc => A8 rfl Tryz.call45 rfl (i5 _) (A1 (B0 rfl hc) A3)) ?_
   refine R15 ?_
   exact F0 rfl (A4 rfl Af0)
  intro h69
  have k69 := F2 h69; try simp only [A5] at k69
  refine R14 ?_
  refine K1 rfl (fun hc => A8 rfl Tryz.call45 rfl (i5 _) (A1 (B0 rfl hc) A3)) ?_
  refine R9 ?_
  exact F0 rfl (A4 rfl Af0)
 intro h69
 have k69 := F2 h69; try simp only [A5] at k69
 refine R4 ?_
 refine A6 (A0 rfl) ?_ ?_
 ·intro h69
  have k69 := F3 h69; try simp only [A5] at k69
  refine R4 ?_
  refine A2 rfl (A8 rfl Tryz.call18 rfl (M0 _ _ _) (A1 (A0 rfl) (A1 D6 (A1 D6 A3)))) ?_
  refine R6 ?_
  refine X2 rfl rfl (S3 rfl rfl rfl) (fun hc => A8 rfl Tryz.call45 rfl (i5 _) (A1 (B0 rfl hc) A3)) ?_
  refine R15 ?_
  exact F0 rfl (A4 rfl Af0)
 intro h69
 have k69 := F2 h69; try simp only [A5] at k69
 refine R14 ?_
 refine K1 rfl (fun hc => A8 rfl Tryz.call45 rfl (i5 _) (A1 (B0 rfl hc) A3)) ?_
 refine R9 ?_
 exact F0 rfl (A4 rfl Af0)
theorem r3 (r : E8) (hs : r.size ≤ 1048576) : C0 Tryz.prog 122 [AV.agg r.cs] (AV.bool (l4Good r)) := by
  refine B3 Tryz.func122 rfl Tryz.ntmps122 rfl ?_
  refine R3 ?_
  intro b1
  refine R5 ?_
  refine A2 rfl (A8 rfl Tryz.call19 rfl (AH1 _ M5) (A1 (A0 rfl) A3)) ?_
  refine R3 ?_
  exact F0 rfl (A4 rfl U5)
theorem Ad0 {l : List Str} (h : l.length ≤ 8 ∧ ∀ s ∈ l, l3Key s = true) : sizeL (fun x : Str => x.length) l ≤ 1048576 := by
  have h1 : ∀ l : List Str, (∀ s ∈ l, l3Key s = true) → sizeL (fun x : Str => x.length) l ≤ 13 * l.length := by
    intro l
    induction l with
    | nil => intro _; simp [sizeL]
    | cons s l ih =>
      intro g
      have g1 := V5 (g s List.mem_cons_self)
      have g2 := ih fun x hx => g x (List.mem_cons_of_mem _ hx)
      have g3 : sizeL (fun x : Str => x.length) (s :: l) = sizeL (fun x : Str => x.length) l + s.length + 1 := by unfold sizeL; simp; omega
      rw [g3, E6]; omega
  have := h1 l h.2
  omega
theorem AM6 (r : E8) (hg : goodRec r = true) : C0 Tryz.prog 44 [AV.agg r.cs] (AV.str (recB r)) := by
 have h := Z0 hg
 have k1 := h.kind; have k2 := h.txn; have k3 := h.time; have k4 := h.lead
 have k5 := h.writes.1; have k6 := h.reads.1
 have n1 := J9 (k := 1) (n := r.Kind.toNat) qz5 B5
 have n2 := J9 (k := 1) (n := r.Txn.toNat) qz5 B5
 have n3 := J9 (k := 3) (n := r.Time.toNat) qz5 B5
 have n4 := J9 (k := 1) (n := r.Lead.toNat) qz5 B5
 have n5 := AG5 h.reads
 have n6 := J9 (k := 1) (n := r.Writes.length) qz5 B5
 have n7 := o3 r.Yes
 have hhd := AP7 h
 have hks := Ad0 h.reads
 refine B3 Tryz.func44 rfl Tryz.ntmps44 rfl ?_
 refine R3 ?_
 intro b1
 refine A2 rfl (E2 rfl (D4 (l := []) rfl)) ?_
 refine R5 ?_
 refine A9 rfl rfl (A8 rfl Tryz.call43 rfl (O2 r.Kind qz5 qz5) (A1 (A0 rfl) A3)) ?_
 refine R2 ?_
 refine A9 rfl rfl (A8 rfl Tryz.call43 rfl (O2 r.Txn qz5 qz5) (A1 (A0 rfl) A3)) ?_
 refine A9 rfl rfl (J7 rfl (A0 rfl) (A0 rfl) qz8) ?_
 refine R2 ?_
 refine A9 rfl rfl (A8 rfl Tryz.call43 rfl (O2 r.Time qz5 qz5) (A1 (A0 rfl) A3)) ?_
 refine A9 rfl rfl (J7 rfl (A0 rfl) (A0 rfl) qz8) ?_
 refine R2 ?_
 refine A9 rfl rfl (A8 rfl Tryz.call43 rfl (O2 r.Lead qz5 qz5) (A1 (A0 rfl) A3)) ?_
 refine A9 rfl rfl (J7 rfl (A0 rfl) (A0 rfl) qz8) ?_
 refine R2 ?_
 refine A9 rfl rfl (A8 rfl Tryz.call77 rfl (AM5 _) (A1 (A0 rfl) A3)) ?_
 refine A9 rfl rfl (J7 rfl (A0 rfl) (A0 rfl) qz8) ?_
 refine R2 ?_
 refine A9 rfl rfl (A8 rfl Tryz.call78 rfl (Ac9 r.Reads hks) (A1 (A0 rfl) A3)) ?_
 refine A9 rfl rfl (J7 rfl (A0 rfl) (A0 rfl) qz8) ?_
 refine R3 ?_
 refine A9 rfl rfl (A8 rfl Tryz.call43 rfl (AM3 r.Writes.length qz5) (A1 (A0 (congrArg (fun z => some (AV.int z)) (by rw [A5]))) A3)) ?_
 refine A9 rfl rfl (J7 rfl (A0 rfl) (A0 rfl) qz8) ?_
 refine R11 ?_
 refine H7 [(2, _), (35, _), (36, _)] _ (fun (i : Nat) => i ≤ r.Writes.length) (fun (i : Nat) => []) (fun (i : Nat) => [(3, AV.str (recHd r ++ writesB (r.Writes.take i))), (37, AV.int i)]) (fun (i : Nat) => r.Writes.length - i) (0) ?_ (G7 ⟨congrArg (fun z => some (AV.str z)) (by rw [List.take_zero]; exact (List.append_nil _).symm), rfl, rfl, rfl, rfl, trivial⟩) ?_
 ·exact Nat.zero_le _
 intro i hinv
 refine R5 ?_
 refine A6 (A0 rfl) ?_ ?_
 ·intro h38
  have k38 := of_decide_eq_true h38; try simp only [A5] at k38
  have hlt : i < r.Writes.length := by omega
  obtain ⟨x, hx⟩ := E7 hlt
  have hxg := h.writes.2 x (C6 hx)
  have hxk := V5 hxg.1
  have hxv := q6 hxg.2.1
  have hwt := q7 h.writes i
  have hwl := (AK8 ⟨hxg.1, hxg.2.1⟩).1
  have e1 := J9 (k := 1) (n := x.Key.length) qz5 B5
  have e2 := J9 (k := 1) (n := x.Val.length) qz5 B5
  have e3 : (textB x.Key).length ≤ 13 := by (unfold textB; rw [D5]; omega)
  have e4 : (textB x.Val).length ≤ 25 := by (unfold textB; rw [D5]; omega)
  have e5 := o3 x.Gone
  refine R5 ?_
  refine A2 rfl (F1 rfl I3 L1 (A0 rfl) (A0 rfl) hx qz1) ?_
  refine R2 ?_
  intro b5
  refine R6 ?_
  refine A9 rfl rfl (A8 rfl Tryz.call79 rfl (s7 _ M5) (A1 (A0 rfl) A3)) ?_
  refine R2 ?_
  refine A9 rfl rfl (A8 rfl Tryz.call77 rfl (AM5 _) (A1 (A0 rfl) A3)) ?_
  refine A9 rfl rfl (J7 rfl (A0 rfl) (A0 rfl) qz8) ?_
  refine R2 ?_
  refine A9 rfl rfl (A8 rfl Tryz.call79 rfl (s7 _ M5) (A1 (A0 rfl) A3)) ?_
  refine A9 rfl rfl (J7 rfl (A0 rfl) (A0 rfl) qz8) ?_
  refine A9 rfl rfl (J7 rfl (A0 rfl) (A0 rfl) qz8) ?_
  refine R6 ?_
  refine J2 i (i + 1) ?_ ?_ (AS5 1 ⟨congrArg (fun z => some (AV.str z)) (by rw [AP9 hx]; simp [writeB]), rfl, rfl, rfl, rfl, trivial⟩)
  ·omega
  omega
 intro h38
 have k38 := of_decide_eq_false h38; try simp only [A5] at k38
 have hge : i = r.Writes.length := by omega
 have hwt := q7 h.writes i
 refine R4 ?_
 refine A2 rfl (A8 rfl Tryz.call68 rfl (AF3 _ (by rw [D5]; omega)) (A1 (A0 rfl) A3)) ?_
 refine R3 ?_
 exact F0 rfl (A4 rfl (by exact congrArg AV.str (by rw [hge, List.take_length]; rfl)))
theorem AR0 (r : E8) (hg : goodRec r = true) : C0 Tryz.prog 49 [AV.agg r.cs] (AV.str (recB r)) := by
 have h := Z0 hg
 have k1 := h.kind; have k2 := h.txn; have k3 := h.time; have k4 := h.lead
 have k5 := h.writes.1; have k6 := h.reads.1
 have n1 := J9 (k := 1) (n := r.Kind.toNat) qz5 B5
 have n2 := J9 (k := 1) (n := r.Txn.toNat) qz5 B5
 have n3 := J9 (k := 3) (n := r.Time.toNat) qz5 B5
 have n4 := J9 (k := 1) (n := r.Lead.toNat) qz5 B5
 have n5 := AG5 h.reads
 have n6 := J9 (k := 1) (n := r.Writes.length) qz5 B5
 have n7 := o3 r.Yes
 have hhd := AP7 h
 have hks := Ad0 h.reads
 refine B3 Tryz.func49 rfl Tryz.ntmps49 rfl ?_
 refine R3 ?_
 intro b1
 refine A2 rfl (E2 rfl (D4 (l := []) rfl)) ?_
 refine R5 ?_
 refine A9 rfl rfl (A8 rfl Tryz.call48 rfl (T3 r.Kind qz5 qz5) (A1 (A0 rfl) A3)) ?_
 refine R2 ?_
 refine A9 rfl rfl (A8 rfl Tryz.call48 rfl (T3 r.Txn qz5 qz5) (A1 (A0 rfl) A3)) ?_
 refine A9 rfl rfl (J7 rfl (A0 rfl) (A0 rfl) qz8) ?_
 refine R2 ?_
 refine A9 rfl rfl (A8 rfl Tryz.call48 rfl (T3 r.Time qz5 qz5) (A1 (A0 rfl) A3)) ?_
 refine A9 rfl rfl (J7 rfl (A0 rfl) (A0 rfl) qz8) ?_
 refine R2 ?_
 refine A9 rfl rfl (A8 rfl Tryz.call48 rfl (T3 r.Lead qz5 qz5) (A1 (A0 rfl) A3)) ?_
 refine A9 rfl rfl (J7 rfl (A0 rfl) (A0 rfl) qz8) ?_
 refine R2 ?_
 refine A9 rfl rfl (A8 rfl Tryz.call82 rfl (AW4 _) (A1 (A0 rfl) A3)) ?_
 refine A9 rfl rfl (J7 rfl (A0 rfl) (A0 rfl) qz8) ?_
 refine R2 ?_
 refine A9 rfl rfl (A8 rfl Tryz.call83 rfl (Am2 r.Reads hks) (A1 (A0 rfl) A3)) ?_
 refine A9 rfl rfl (J7 rfl (A0 rfl) (A0 rfl) qz8) ?_
 refine R3 ?_
 refine A9 rfl rfl (A8 rfl Tryz.call48 rfl (AW2 r.Writes.length qz5) (A1 (A0 (congrArg (fun z => some (AV.int z)) (by rw [A5]))) A3)) ?_
 refine A9 rfl rfl (J7 rfl (A0 rfl) (A0 rfl) qz8) ?_
 refine R11 ?_
 refine H7 [(2, _), (35, _), (36, _)] _ (fun (i : Nat) => i ≤ r.Writes.length) (fun (i : Nat) => []) (fun (i : Nat) => [(3, AV.str (recHd r ++ writesB (r.Writes.take i))), (37, AV.int i)]) (fun (i : Nat) => r.Writes.length - i) (0) ?_ (G7 ⟨congrArg (fun z => some (AV.str z)) (by rw [List.take_zero]; exact (List.append_nil _).symm), rfl, rfl, rfl, rfl, trivial⟩) ?_
 ·exact Nat.zero_le _
 intro i hinv
 refine R5 ?_
 refine A6 (A0 rfl) ?_ ?_
 ·intro h38
  have k38 := of_decide_eq_true h38; try simp only [A5] at k38
  have hlt : i < r.Writes.length := by omega
  obtain ⟨x, hx⟩ := E7 hlt
  have hxg := h.writes.2 x (C6 hx)
  have hxk := V5 hxg.1
  have hxv := q6 hxg.2.1
  have hwt := q7 h.writes i
  have hwl := (AK8 ⟨hxg.1, hxg.2.1⟩).1
  have e1 := J9 (k := 1) (n := x.Key.length) qz5 B5
  have e2 := J9 (k := 1) (n := x.Val.length) qz5 B5
  have e3 : (textB x.Key).length ≤ 13 := by (unfold textB; rw [D5]; omega)
  have e4 : (textB x.Val).length ≤ 25 := by (unfold textB; rw [D5]; omega)
  have e5 := o3 x.Gone
  refine R5 ?_
  refine A2 rfl (F1 rfl I3 L1 (A0 rfl) (A0 rfl) hx qz1) ?_
  refine R2 ?_
  intro b5
  refine R6 ?_
  refine A9 rfl rfl (A8 rfl Tryz.call84 rfl (AD4 _ M5) (A1 (A0 rfl) A3)) ?_
  refine R2 ?_
  refine A9 rfl rfl (A8 rfl Tryz.call82 rfl (AW4 _) (A1 (A0 rfl) A3)) ?_
  refine A9 rfl rfl (J7 rfl (A0 rfl) (A0 rfl) qz8) ?_
  refine R2 ?_
  refine A9 rfl rfl (A8 rfl Tryz.call84 rfl (AD4 _ M5) (A1 (A0 rfl) A3)) ?_
  refine A9 rfl rfl (J7 rfl (A0 rfl) (A0 rfl) qz8) ?_
  refine A9 rfl rfl (J7 rfl (A0 rfl) (A0 rfl) qz8) ?_
  refine R6 ?_
  refine J2 i (i + 1) ?_ ?_ (AS5 1 ⟨congrArg (fun z => some (AV.str z)) (by rw [AP9 hx]; simp [writeB]), rfl, rfl, rfl, rfl, trivial⟩)
  ·omega
  omega
 intro h38
 have k38 := of_decide_eq_false h38; try simp only [A5] at k38
 have hge : i = r.Writes.length := by omega
 have hwt := q7 h.writes i
 refine R4 ?_
 refine A2 rfl (A8 rfl Tryz.call85 rfl (AG9 _ (by rw [D5]; omega)) (A1 (A0 rfl) A3)) ?_
 refine R3 ?_
 exact F0 rfl (A4 rfl (by exact congrArg AV.str (by rw [hge, List.take_length]; rfl)))
theorem AZ1 (b : Str) : (!within (b.length : Int) 3 6000 || (L9 (b.take (b.length - 3)) != b)) = !m1 b := by
  unfold m1; rw [Bool.not_and]; rfl
theorem Ak7 (b : Str) : ((decide ((b.length : Int) - 3 < 0) || decide (6000 < (b.length : Int))) || (L9 (b.take (b.length - 3)) != b)) = !m1 b := by
  rw [← AZ1]
  congr 1
  unfold within
  rw [Bool.eq_iff_iff]
  simp; omega
theorem Am3 (b : Str) (hs : b.length ≤ 1048576) : C0 Tryz.prog 65 [AV.str b] (AV.tup [AV.str (openR b).1, AV.bool (openR b).2]) := by
 have ht : ((b.length : Int) - 3).toNat = b.length - 3 := by omega
 have hw : within (b.length : Int) 3 6000 = true → 3 ≤ b.length := fun h => by unfold within at h; simp at h; omega
 have hl : (b.take (b.length - 3)).length ≤ 1048576 := by rw [H2]; omega
 refine B3 Tryz.func65 rfl Tryz.ntmps65 rfl ?_
 refine R2 ?_
 refine A2 rfl (E2 rfl (D4 (l := []) rfl)) ?_
 refine R7 ?_
 refine A2 rfl (A8 rfl Tryz.call15 rfl (Y9 _ _ _) (A1 (A0 rfl) (A1 D6 (A1 D6 A3)))) ?_
 refine R6 ?_
 refine L0 rfl (fun hc => a8 rfl C3 (B0 rfl hc) (B0 rfl hc) (by have h9 := hw (by simpa using hc); omega) (by have h9 := hw (by simpa using hc); omega)) ?_
 rw [ht]
 refine L0 rfl (fun hc => A8 rfl Tryz.call68 rfl (AF3 _ M5) (A1 (B0 rfl hc) A3)) ?_
 refine R4 ?_
 refine A6 (A0 rfl) ?_ ?_
 ·intro h17
  rw [AZ1] at h17
  have he : openR b = ([], false) := if_neg (by simpa using h17)
  rw [he]
  refine R1 ?_
  skip
  refine R1 ?_
  refine A2 rfl (E2 rfl (D4 (l := []) rfl)) ?_
  refine R3 ?_
  exact L3 rfl B5 (A7 (A4 rfl AN0) (A7 (A4 rfl AN0) D0))
 intro h17
 rw [AZ1] at h17
 have ho : m1 b = true := by simpa using h17
 have he : openR b = (b.take (b.length - 3), true) := if_pos ho
 rw [he]
 have h9 := hw (by unfold m1 at ho; rw [Bool.and_eq_true] at ho; exact ho.1)
 refine R7 ?_
 refine A2 rfl (a8 rfl C3 (A0 rfl) (A0 rfl) qz5 qz5) ?_
 refine R4 ?_
 exact L3 rfl B5 (A7 (A4 rfl AN0) (A7 (A4 rfl AN0) D0))
theorem Ag3 (b : Str) (hs : b.length ≤ 1048576) : C0 Tryz.prog 98 [AV.str b] (AV.tup [AV.str (openR b).1, AV.bool (openR b).2]) := by
 have ht : ((b.length : Int) - 3).toNat = b.length - 3 := by omega
 have hl : (b.take (b.length - 3)).length ≤ 1048576 := by rw [H2]; omega
 refine B3 Tryz.func98 rfl Tryz.ntmps98 rfl ?_
 refine R2 ?_
 refine A2 rfl (E2 rfl (D4 (l := []) rfl)) ?_
 refine R22 ?_
 refine L0 rfl (fun hc => a8 rfl C3 (B0 rfl hc) (B0 rfl hc) (by have h9 := hc; simp at h9; omega) (by have h9 := hc; simp at h9; omega)) ?_
 rw [ht]
 refine L0 rfl (fun hc => A8 rfl Tryz.call85 rfl (AG9 _ M5) (A1 (B0 rfl hc) A3)) ?_
 refine R4 ?_
 refine A6 (A0 rfl) ?_ ?_
 ·intro h22
  rw [Ak7] at h22
  have he : openR b = ([], false) := if_neg (by simpa using h22)
  rw [he]
  refine R2 ?_
  refine A2 rfl (E2 rfl (D4 (l := []) rfl)) ?_
  refine R3 ?_
  exact L3 rfl B5 (A7 (A4 rfl AN0) (A7 (A4 rfl AN0) D0))
 intro h22
 rw [Ak7] at h22
 have ho : m1 b = true := by simpa using h22
 have he : openR b = (b.take (b.length - 3), true) := if_pos ho
 rw [he]
 have h9 : 3 ≤ b.length := by (unfold m1 within at ho; simp at ho; omega)
 refine R5 ?_
 refine A2 rfl (a8 rfl C3 (A0 rfl) (A0 rfl) qz5 qz5) ?_
 refine R4 ?_
 exact L3 rfl B5 (A7 (A4 rfl AN0) (A7 (A4 rfl AN0) D0))
end Go.Proofs.YtkibefcceekmnaaGreat
namespace Go.Proofs.YtkibefcceekmnaaGreat
open Go Go.AV Go.M
attribute [local irreducible] OpW OpA OpS AWP C0 I0 D7 OpE RetOk G3 H5 Le Ev F6
def E8.ow (c : E8) (x : Value × Value) : List Own := [.arr x.1 9 1 (c.Reads.map (fun x => [AV.str x])), .arr x.2 100 3 (c.Writes.map B4.cs)]
theorem E8.lc (c : E8) (x : Value × Value) : U3 (E8.ow c x) (E8.ocs c x) c.cs := (B2 C8 (B2 C8 (B2 C8 (B2 C8 (B2 (G5 (C6 (i := 0) rfl) E3) (B2 (G5 (C6 (i := 1) rfl) E3) (B2 C8 J8)))))))
def P9.ow (c : P9) (x : Value × Value) : List Own := [.arr x.1 9 1 (c.Cuts.map (fun x => [AV.str x])), .arr x.2 3 1 (c.Groups.map (fun x => [AV.int x]))]
theorem P9.lc (c : P9) (x : Value × Value) : U3 (P9.ow c x) (P9.ocs c x) c.cs := (B2 C8 (B2 (G5 (C6 (i := 0) rfl) E3) (B2 (G5 (C6 (i := 1) rfl) E3) J8)))
def TMove.ow (c : TMove) (x : Value × Value) : List Own := [.arr x.1 100 3 (c.From.map B4.cs), .arr x.2 100 3 (c.To.map B4.cs)]
theorem TMove.lc (c : TMove) (x : Value × Value) : U3 (TMove.ow c x) (TMove.ocs c x) c.cs := (B2 C8 (B2 C8 (B2 C8 (B2 (G5 (C6 (i := 0) rfl) E3) (B2 (G5 (C6 (i := 1) rfl) E3) (B2 C8 (B2 C8 J8)))))))
end Go.Proofs.YtkibefcceekmnaaGreat
namespace Go.Proofs.YtkibefcceekmnaaGreat
open Go Go.AV Go.M
attribute [local irreducible] OpW OpA OpS AWP C0 I0 D7 OpE RetOk G3 H5 Le Ev F6 J1 Int.tmod Int.tdiv IntKind.wrap
theorem BA6 {l : List B4} {m : Nat} (h : ∀ w ∈ l, w.Key.length ≤ 60 ∧ w.Val.length ≤ 60) (hl : l.length ≤ m) : sizeL B4.size l ≤ 121 * m := by
  have h1 : ∀ l : List B4, (∀ w ∈ l, w.Key.length ≤ 60 ∧ w.Val.length ≤ 60) → sizeL B4.size l ≤ 121 * l.length := by
    intro l
    induction l with
    | nil => intro _; simp [sizeL]
    | cons w l ih =>
      intro g
      have g1 := g w List.mem_cons_self
      have g2 := ih fun x hx => g x (List.mem_cons_of_mem _ hx)
      have g3 : sizeL B4.size (w :: l) = sizeL B4.size l + (w.Key.length + w.Val.length) + 1 := by unfold sizeL B4.size; simp; omega
      rw [g3, E6]; omega
  have := h1 l h
  have := Nat.mul_le_mul_left 121 hl
  omega
theorem BA7 {l : List Str} (h : l.length ≤ 40 ∧ ∀ t ∈ l, t.length ≤ 60) : sizeL (fun x : Str => x.length) l ≤ 2440 := by
  have h1 : ∀ l : List Str, (∀ t ∈ l, t.length ≤ 60) → sizeL (fun x : Str => x.length) l ≤ 61 * l.length := by
    intro l
    induction l with
    | nil => intro _; simp [sizeL]
    | cons w l ih =>
      intro g
      have g1 := g w List.mem_cons_self
      have g2 := ih fun x hx => g x (List.mem_cons_of_mem _ hx)
      have g3 : sizeL (fun x : Str => x.length) (w :: l) = sizeL (fun x : Str => x.length) l + w.length + 1 := by unfold sizeL; simp; omega
      rw [g3, E6]; omega
  have := h1 l h.2
  omega
theorem BA8 {l : List B4} {w : B4} (h : ∀ w ∈ l, w.Key.length ≤ 60 ∧ w.Val.length ≤ 60) (hw : w.Key.length ≤ 60 ∧ w.Val.length ≤ 60) : ∀ x ∈ l ++ [w], x.Key.length ≤ 60 ∧ x.Val.length ≤ 60 := fun x hx =>
  (List.mem_append.1 hx).elim (h x) fun e => by rw [List.mem_singleton.1 e]; exact hw
theorem Aw1 (b : Str) (hs : b.length ≤ 1048576) : D7 Tryz.prog 32 [AV.str b] [] (fun _ : Value × Value => True) (fun x => E8.ow (readRecR b).1 x) (fun x => AV.tup [AV.agg (E8.ocs (readRecR b).1 x), AV.bool (readRecR b).2]) := by
 obtain ⟨r0, h0⟩ : ∃ r0, (readRecR b).1 = r0 := ⟨_, rfl⟩
 have hno : ¬ (goodRec r0 = true ∧ recB r0 = b) → readRecR b = (V2, false) := fun h => AG7 (by rw [h0]; exact h)
 have hop : goodRec r0 = true ∧ recB r0 = b → openR b = (recIn r0, true) := fun h => by
  have h9 := AP8 (Z0 h.1)
  rw [← h.2]; exact Ab9 qz5
 refine D1 Tryz.func32 rfl Tryz.ntmps32 rfl ?_
 refine R3 ?_
 intro b2
 refine R5 ?_
 refine A2 rfl (A8 rfl Tryz.call65 rfl (Am3 _ M5) (A1 (A0 rfl) A3)) ?_
 refine R12 ?_
 refine A6 (A0 rfl) ?_ ?_
 ·intro h15
  have he : readRecR b = (V2, false) := hno (fun h => by rw [hop h] at h15; cases h15)
  rw [he]
  refine R7 ?_
  refine L2 9 1 ?_
  refine L2 100 3 ?_
  exact E4 [1, 0] ((Value.slice none 0 0), (Value.slice none 0 0)) (trivial) rfl B1 (J4 rfl B5 (A7 (C4 (ys := _) 2 rfl rfl I2 G9 rfl) (A7 (A4 rfl B1) D0)))
 intro h15
 obtain ⟨p, hp⟩ : ∃ p, (openR b).1 = p := ⟨_, rfl⟩
 have hpl : p.length ≤ 6000 := by (rcases AV6 b with e | ⟨e, h8, _⟩; (rw [← hp, e]; exact Nat.zero_le _); (rw [← hp, e]; show (b.take _).length ≤ _; rw [H2]; omega))
 have hin : goodRec r0 = true ∧ recB r0 = b → p = recIn r0 := fun h => by rw [← hp, hop h]
 rw [hp]
 refine R6 ?_
 intro b19
 refine R5 ?_
 refine B6 [0] rfl rfl rfl rfl Tryz.call31 rfl (V6 _ p ⟨0, false⟩ (Nat.zero_le _) qz5) (A1 (A0 rfl) A3) rfl ?_
 intro x21 ok21
 refine R1 ?_
 refine B6 [0] rfl rfl rfl rfl Tryz.call31 rfl (V6 _ p x21.1 ok21.1.2 qz5) (A1 (A0 rfl) A3) rfl ?_
 intro x23 ok23
 refine R1 ?_
 refine B6 [0] rfl rfl rfl rfl Tryz.call31 rfl (V6 _ p x23.1 ok23.1.2 qz5) (A1 (A0 rfl) A3) rfl ?_
 intro x25 ok25
 refine R1 ?_
 refine B6 [0] rfl rfl rfl rfl Tryz.call31 rfl (V6 _ p x25.1 ok25.1.2 qz5) (A1 (A0 rfl) A3) rfl ?_
 intro x27 ok27
 refine R1 ?_
 refine B6 [0] rfl rfl rfl rfl Tryz.call63 rfl (e9 _ p x27.1 1 ok27.1.2 qz5 B5) (A1 (A0 rfl) (A1 D6 A3)) rfl ?_
 intro x29 ok29
 refine A2 rfl (Aa3 rfl (A0 rfl) (D4 (l := [1]) rfl)) ?_
 refine R1 ?_
 refine B6 [0] rfl rfl rfl rfl Tryz.call66 rfl (Ar6 _ p (takeR p x27.1 1).1 (AY6 1 ok27.1.2).2 qz5) (A1 (A0 rfl) A3) rfl ?_
 intro x32 ok32
 refine Q8 1 rfl fun one_x32_2_2 => ?_
 refine A2 rfl (U1 (places := #[(0, 1), (1, 1), (2, 1), (3, 1), (4, 1), (5, 1), (6, 1)]) rfl Tryz.underlying27 Tryz.zeroValue27 (fun w => by kernel_rfl) rfl (E1 (A0 rfl) (Q3 _ _) (E1 (A0 rfl) (Q3 _ _) (E1 (A0 rfl) (Q3 _ _) (E1 (A0 rfl) (Q3 _ _) (E1 (A0 rfl) (AH5 _) (E1 (A0 rfl) (P2 one_x32_2_2) O8)))))) rfl) ?_
 refine R1 ?_
 intro b7
 refine R6 ?_
 refine B6 [1] rfl rfl rfl rfl Tryz.call31 rfl (V6 _ p x32.1 ok32.1.2 qz5) (A1 (A0 rfl) A3) rfl ?_
 intro x35 ok35
 have hF : goodRec r0 = true ∧ recB r0 = b → _ := fun h => BD2 (Z0 h.1) (hin h) ok21 ok23 ok25 ok27 ok32 ok35
 refine R3 ?_
 refine AJ9 100 3 ?_
 refine AWP.le (H6 [2, 1, 1, 0] rfl) ?_
 refine T0 [(0, _), (2, _), (3, _), (6, _), (7, _)] _ (fun (n : Nat) (s : E0) (ws : List B4) (vw : Value) => ((s.at' ≤ p.length ∧ ws.length ≤ s.at' + 1 ∧ (s.bad = false → ws.length ≤ s.at') ∧ n ≤ 1000000000) ∧ (∀ w ∈ ws, w.Key.length ≤ 60 ∧ w.Val.length ≤ 60)) ∧ (x35.1.bad = true → s.bad = true) ∧ (goodRec r0 = true ∧ recB r0 = b → AZ5 p r0 n s ws)) (fun (n : Nat) (s : E0) (ws : List B4) (vw : Value) => [.box b7 27 [AV.int x21.2, AV.int x23.2, AV.int x25.2, AV.int x27.2, AV.is x32.2.2, AV.is vw, AV.bool ((takeR p x27.1 1).2 == [1])], .box b19 69 (T8 p s), .arr x32.2.2 9 1 (x32.2.1.map fun t => [AV.str t]), .arr vw 100 3 (ws.map B4.cs)]) (fun (n : Nat) (s : E0) (ws : List B4) (vw : Value) => [(8, AV.int n)]) (fun (n : Nat) (s : E0) (ws : List B4) (vw : Value) => n) (x35.2) (x35.1) ([]) ((Value.slice none 0 0)) ?_ (J5 B1 ⟨rfl, rfl, rfl, rfl, rfl, rfl, trivial⟩) ?_
 ·exact ⟨⟨⟨ok35.1.2, Nat.zero_le _, fun _ => Nat.zero_le _, ok35.2.1⟩, fun w hw => by cases hw⟩, id, fun h => ⟨0, by rw [(hF h).2.2.2.2]; omega, rfl, (hF h).1⟩⟩
 intro n s ws vw hinv
 refine R13 ?_
 refine A6 (A0 rfl) ?_ ?_
 ·intro h44
  have hn1 : 0 < n := by (simp only [Bool.and_eq_true, decide_eq_true_eq] at h44; omega)
  have hsb : s.bad = false := by (simp only [Bool.and_eq_true, Bool.not_eq_true'] at h44; exact h44.2)
  refine R3 ?_
  refine AWP.le (H6 [2, 0, 1, 0] rfl) ?_
  refine Z4 _ [(0, false), (1, false), (2, false), (4, false), (7, false), (3, true), (5, true), (6, false), (8, true), (9, false), (10, false), (11, true)] F9 F9 rfl (X4 2) ?_
  refine R5 ?_
  refine g8 rfl rfl rfl (K5 [3] rfl Tryz.call67 rfl (w5 _ p s hinv.1.1.1 qz5) (A1 (A0 rfl) A3) rfl) (fun a _ => qz2) ?_
  intro x50 ok50
  refine g8 rfl rfl rfl (K5 [4] rfl Tryz.call63 rfl (e9 _ p x50.1 1 ok50.1.2 qz5 B5) (A1 (A0 rfl) (A1 D6 A3)) rfl) (fun a _ => qz2) ?_
  intro x52 ok52
  refine U8 rfl rfl rfl (fun ext => Aa3 rfl (A0 rfl) (D4 (l := [1]) rfl)) ?_
  refine g8 rfl rfl rfl (K5 [4] rfl Tryz.call67 rfl (w5 _ p (takeR p x50.1 1).1 (AY6 1 ok50.1.2).2 qz5) (A1 (A0 rfl) A3) rfl) (fun a _ => qz2) ?_
  intro x55 ok55
  refine R2 ?_
  refine g8 rfl rfl rfl (T1 (by' := 40) 2 rfl I3 Tryz.type100 rfl rfl rfl rfl rfl rfl (A0 rfl) (A0 rfl) rfl qz1) (fun a _ => qz2) ?_
  intro v58_3 _
  refine R2 ?_
  refine Q8 2 rfl fun one_v58_3 => ?_
  refine O0 1 rfl rfl rfl (A0 rfl) (A0 rfl) (P2 one_v58_3) rfl Tryz.sizeOf25 rfl ?_
  refine R6 ?_
  refine Q1 n s ws vw (n - 1) (x55.1) (ws ++ [⟨x50.2, x55.2, ((takeR p x50.1 1).2 == [1])⟩]) (v58_3) ?_ ?_ (Le.trans (H6 [1, 3, 0, 0] rfl) (J5 (by (rw [List.map_append]; rfl)) ⟨congrArg (fun z => some (AV.int z)) qz5, rfl, rfl, rfl, rfl, rfl, trivial⟩))
  ·(have g1 := hinv.1.1.2.2.1 hsb; have g2 := ok50.1; have g3 := AY6 1 ok50.1.2; have g4 := ok55.1; refine ⟨⟨⟨g4.2, by rw [D5, E6, I4]; omega, fun h9 => by have g5 := Aj9 ok55 h9; rw [D5, E6, I4]; omega, by omega⟩, BA8 hinv.1.2 ⟨ok50.2.1, ok55.2.1⟩⟩, fun h9 => (by rw [hinv.2.1 h9] at hsb; cases hsb), fun h => BJ1 (Z0 h.1) (hinv.2.2 h) hn1 ok50 ok50.1.2 ok55⟩)
  omega
 intro h44
 have hend : n = 0 ∨ s.bad = true := by (rw [Bool.and_eq_false_iff] at h44; rcases h44 with h | h; (left; simp at h; omega); (right; simpa using h))
 obtain ⟨rr, hrr⟩ : ∃ rr : E8, rr = ⟨x21.2, x23.2, x25.2, x27.2, x32.2.1, ws, ((takeR p x27.1 1).2 == [1])⟩ := ⟨_, rfl⟩
 have hsz : s.bad = false → rr.size ≤ 1048576 := fun h9 => by (have g1 : x35.1.bad = false := (by cases e : x35.1.bad with | false => rfl | true => rw [hinv.2.1 e] at h9; cases h9); have g2 : x32.1.bad = false := (by cases e : x32.1.bad with | false => rfl | true => rw [BA1 ok35 e] at g1; cases g1); have g3 := BA7 (Ac0 ok32 g2); have g4 := BA6 (m := 6001) hinv.1.2 (by have g5 := hinv.1.1; omega); rw [hrr]; unfold E8.size; dsimp only; omega)
 have hr0 : goodRec r0 = true ∧ recB r0 = b → rr = r0 := fun h => by (obtain ⟨_, ⟨e1, e2, e3, e4⟩, e5, e6, _⟩ := hF h; have e7 := (AK9 (hinv.2.2 h) hend).2; have g := Z0 h.1; have g1 := g.kind; have g2 := g.txn; have g3 := g.time; have g4 := g.lead; rw [hrr]; cases r0; simp only [E8.mk.injEq] at *; exact ⟨by omega, by omega, by omega, by omega, e5, e7, e6⟩)
 have hbd : goodRec r0 = true ∧ recB r0 = b → s.bad = false := fun h => (AK9 (hinv.2.2 h) hend).1
 subst hrr
 refine R10 ?_
 refine L0 rfl (fun hc => AS9 rfl Tryz.call16 rfl (AQ9 _ (hsz (by simpa using hc))) (P7 _) (o0 (AO1 (B0 rfl hc) (c9 (B2 C8 (B2 C8 (B2 C8 (B2 C8 (B2 (G5 (C6 (i := 2) rfl) E3) (B2 (G5 (C6 (i := 3) rfl) E3) (B2 C8 J8))))))))) s0)) ?_
 refine R4 ?_
 refine L0 rfl (fun hc => AS9 rfl Tryz.call44 rfl (AM6 ⟨x21.2, x23.2, x25.2, x27.2, x32.2.1, ws, ((takeR p x27.1 1).2 == [1])⟩ (by simp only [Bool.not_eq_true', Bool.or_eq_false_iff, Bool.not_eq_false'] at hc; exact hc.2)) (L4 _) (o0 (AO1 (B0 rfl hc) (c9 (B2 C8 (B2 C8 (B2 C8 (B2 C8 (B2 (G5 (C6 (i := 2) rfl) E3) (B2 (G5 (C6 (i := 3) rfl) E3) (B2 C8 J8))))))))) s0)) ?_
 refine R4 ?_
 refine A6 (A0 rfl) ?_ ?_
 ·intro h74
  have he := AV8 h0 hr0 hbd h74
  rw [he]
  refine R7 ?_
  refine L2 9 1 ?_
  refine L2 100 3 ?_
  exact E4 [1, 0] ((Value.slice none 0 0), (Value.slice none 0 0)) (trivial) rfl B1 (J4 rfl B5 (A7 (C4 (ys := _) 6 rfl rfl I2 G9 rfl) (A7 (A4 rfl B1) D0)))
 intro h74
 simp only [Bool.or_eq_false_iff, Bool.not_eq_false', bne_eq_false_iff_eq] at h74
 have he := AG6 h74.1.2
 rw [h74.2] at he
 rw [he]
 refine R8 ?_
 exact E4 [2, 2] (x32.2.2, vw) (trivial) rfl B1 (J4 rfl B5 (A7 (C4 (ys := _) 4 rfl rfl I2 G9 rfl) (A7 (A4 rfl B1) D0)))
theorem Ar9 (b : Str) (hs : b.length ≤ 1048576) : D7 Tryz.prog 61 [AV.str b] [] (fun _ : Value × Value => True) (fun x => E8.ow (readRecR b).1 x) (fun x => AV.tup [AV.agg (E8.ocs (readRecR b).1 x), AV.bool (readRecR b).2]) := by
 obtain ⟨r0, h0⟩ : ∃ r0, (readRecR b).1 = r0 := ⟨_, rfl⟩
 have hno : ¬ (goodRec r0 = true ∧ recB r0 = b) → readRecR b = (V2, false) := fun h => AG7 (by rw [h0]; exact h)
 have hop : goodRec r0 = true ∧ recB r0 = b → openR b = (recIn r0, true) := fun h => by
  have h9 := AP8 (Z0 h.1)
  rw [← h.2]; exact Ab9 qz5
 refine D1 Tryz.func61 rfl Tryz.ntmps61 rfl ?_
 refine R3 ?_
 intro b2
 refine R5 ?_
 refine A2 rfl (A8 rfl Tryz.call98 rfl (Ag3 _ M5) (A1 (A0 rfl) A3)) ?_
 refine R12 ?_
 refine A6 (A0 rfl) ?_ ?_
 ·intro h16
  have he : readRecR b = (V2, false) := hno (fun h => by rw [hop h] at h16; cases h16)
  rw [he]
  refine R7 ?_
  refine L2 9 1 ?_
  refine L2 100 3 ?_
  exact E4 [1, 0] ((Value.slice none 0 0), (Value.slice none 0 0)) (trivial) rfl B1 (J4 rfl B5 (A7 (C4 (ys := _) 2 rfl rfl I2 G9 rfl) (A7 (A4 rfl B1) D0)))
 intro h16
 obtain ⟨p, hp⟩ : ∃ p, (openR b).1 = p := ⟨_, rfl⟩
 have hpl : p.length ≤ 6000 := by (rcases AV6 b with e | ⟨e, h8, _⟩; (rw [← hp, e]; exact Nat.zero_le _); (rw [← hp, e]; show (b.take _).length ≤ _; rw [H2]; omega))
 have hin : goodRec r0 = true ∧ recB r0 = b → p = recIn r0 := fun h => by rw [← hp, hop h]
 rw [hp]
 refine R6 ?_
 intro b20
 refine R5 ?_
 refine B6 [0] rfl rfl rfl rfl Tryz.call97 rfl (Y2 _ p ⟨0, false⟩ (Nat.zero_le _) qz5) (A1 (A0 rfl) A3) rfl ?_
 intro x22 ok22
 refine R1 ?_
 refine B6 [0] rfl rfl rfl rfl Tryz.call97 rfl (Y2 _ p x22.1 ok22.1.2 qz5) (A1 (A0 rfl) A3) rfl ?_
 intro x24 ok24
 refine R1 ?_
 refine B6 [0] rfl rfl rfl rfl Tryz.call97 rfl (Y2 _ p x24.1 ok24.1.2 qz5) (A1 (A0 rfl) A3) rfl ?_
 intro x26 ok26
 refine R1 ?_
 refine B6 [0] rfl rfl rfl rfl Tryz.call97 rfl (Y2 _ p x26.1 ok26.1.2 qz5) (A1 (A0 rfl) A3) rfl ?_
 intro x28 ok28
 refine R2 ?_
 intro b7
 refine R5 ?_
 refine B6 [1] rfl rfl rfl rfl Tryz.call99 rfl (AQ5 _ p x28.1 ok28.1.2 qz5) (A1 (A0 rfl) A3) rfl ?_
 intro x31 ok31
 refine R7 ?_
 refine B6 [0] rfl rfl rfl rfl Tryz.call100 rfl (Av9 _ p (oneR p x28.1).1 (Ag0 ok28.1.2).2 qz5) (A1 (A0 rfl) A3) rfl ?_
 intro x35 ok35
 refine R1 ?_
 refine Q8 1 rfl fun one_x35_2_2 => ?_
 refine O0 2 rfl rfl rfl (A0 rfl) (A0 rfl) (P2 one_x35_2_2) rfl Z6 rfl ?_
 refine R5 ?_
 refine B6 [0] rfl rfl rfl rfl Tryz.call97 rfl (Y2 _ p x35.1 ok35.1.2 qz5) (A1 (A0 rfl) A3) rfl ?_
 intro x38 ok38
 have hF : goodRec r0 = true ∧ recB r0 = b → _ := fun h => Av2 (Z0 h.1) (hin h) ok22 ok24 ok26 ok28 ok35 ok38
 refine R3 ?_
 refine AJ9 100 3 ?_
 refine AWP.le (H6 [3, 1, 1, 0] rfl) ?_
 refine T0 [(0, _), (2, _), (3, _), (6, _), (7, _)] _ (fun (n : Nat) (s : E0) (ws : List B4) (vw : Value) => ((s.at' ≤ p.length ∧ ws.length ≤ s.at' + 1 ∧ (s.bad = false → ws.length ≤ s.at') ∧ n ≤ 1000000000) ∧ (∀ w ∈ ws, w.Key.length ≤ 60 ∧ w.Val.length ≤ 60)) ∧ (x38.1.bad = true → s.bad = true) ∧ (goodRec r0 = true ∧ recB r0 = b → AZ5 p r0 n s ws)) (fun (n : Nat) (s : E0) (ws : List B4) (vw : Value) => [.box b7 27 [AV.int x22.2, AV.int x24.2, AV.int x26.2, AV.int x28.2, AV.is x35.2.2, AV.is vw, AV.bool (((oneR p x28.1).2 : Int) == 1)], .box b20 130 (T8 p s), .arr x35.2.2 9 1 (x35.2.1.map fun t => [AV.str t]), .arr vw 100 3 (ws.map B4.cs)]) (fun (n : Nat) (s : E0) (ws : List B4) (vw : Value) => [(8, AV.int n)]) (fun (n : Nat) (s : E0) (ws : List B4) (vw : Value) => n) (x38.2) (x38.1) ([]) ((Value.slice none 0 0)) ?_ (J5 B1 ⟨rfl, rfl, rfl, rfl, rfl, rfl, trivial⟩) ?_
 ·exact ⟨⟨⟨ok38.1.2, Nat.zero_le _, fun _ => Nat.zero_le _, ok38.2.1⟩, fun w hw => by cases hw⟩, id, fun h => ⟨0, by rw [(hF h).2.2.2.2]; omega, rfl, (hF h).1⟩⟩
 intro n s ws vw hinv
 refine R13 ?_
 refine A6 (A0 rfl) ?_ ?_
 ·intro h47
  have hn1 : 0 < n := by (simp only [Bool.and_eq_true, decide_eq_true_eq] at h47; omega)
  have hsb : s.bad = false := by (simp only [Bool.and_eq_true, Bool.not_eq_true'] at h47; exact h47.2)
  refine R6 ?_
  refine B6 [1] rfl rfl rfl rfl Tryz.call101 rfl (AB4 _ p s hinv.1.1.1 qz5) (A1 (A0 rfl) A3) rfl ?_
  intro x51 ok51
  refine R2 ?_
  intro b9
  refine R5 ?_
  refine B6 [1] rfl rfl rfl rfl Tryz.call99 rfl (AQ5 _ p x51.1 ok51.1.2 qz5) (A1 (A0 rfl) A3) rfl ?_
  intro x54 ok54
  refine R7 ?_
  refine B6 [0] rfl rfl rfl rfl Tryz.call101 rfl (AB4 _ p (oneR p x51.1).1 (Ag0 ok51.1.2).2 qz5) (A1 (A0 rfl) A3) rfl ?_
  intro x58 ok58
  refine R8 ?_
  refine J0 (by' := 40) 4 rfl rfl rfl rfl I3 Tryz.type100 rfl rfl rfl rfl rfl rfl (A0 rfl) (A0 rfl) rfl qz1 ?_
  intro v64_3
  refine R1 ?_
  refine Q8 4 rfl fun one_v64_3 => ?_
  refine O0 2 rfl rfl rfl (A0 rfl) (A0 rfl) (P2 one_v64_3) rfl Tryz.sizeOf25 rfl ?_
  refine R6 ?_
  refine Q1 n s ws vw (n - 1) (x58.1) (ws ++ [⟨x51.2, x58.2, (((oneR p x51.1).2 : Int) == 1)⟩]) (v64_3) ?_ ?_ (Le.trans (H6 [1, 1, 0, 0, 0] rfl) (T5 1 (by (rw [List.map_append]; rfl)) ⟨congrArg (fun z => some (AV.int z)) qz5, rfl, rfl, rfl, rfl, rfl, trivial⟩))
  ·(have g1 := hinv.1.1.2.2.1 hsb; have g2 := ok51.1; have g3 := Ag0 ok51.1.2; have g4 := ok58.1; refine ⟨⟨⟨g4.2, by rw [D5, E6, I4]; omega, fun h9 => by have g5 := Aj9 ok58 h9; rw [D5, E6, I4]; omega, by omega⟩, BA8 hinv.1.2 ⟨ok51.2.1, ok58.2.1⟩⟩, fun h9 => (by rw [hinv.2.1 h9] at hsb; cases hsb), fun h => BD3 (Z0 h.1) (hinv.2.2 h) hn1 ok51 ok51.1.2 ok58⟩)
  omega
 intro h47
 have hend : n = 0 ∨ s.bad = true := by (rw [Bool.and_eq_false_iff] at h47; rcases h47 with h | h; (left; simp at h; omega); (right; simpa using h))
 obtain ⟨rr, hrr⟩ : ∃ rr : E8, rr = ⟨x22.2, x24.2, x26.2, x28.2, x35.2.1, ws, (((oneR p x28.1).2 : Int) == 1)⟩ := ⟨_, rfl⟩
 have hsz : s.bad = false → rr.size ≤ 1048576 := fun h9 => by (have g1 : x38.1.bad = false := (by cases e : x38.1.bad with | false => rfl | true => rw [hinv.2.1 e] at h9; cases h9); have g2 : x35.1.bad = false := (by cases e : x35.1.bad with | false => rfl | true => rw [BA1 ok38 e] at g1; cases g1); have g3 := BA7 (Ac0 ok35 g2); have g4 := BA6 (m := 6001) hinv.1.2 (by have g5 := hinv.1.1; omega); rw [hrr]; unfold E8.size; dsimp only; omega)
 have hr0 : goodRec r0 = true ∧ recB r0 = b → rr = r0 := fun h => by (obtain ⟨_, ⟨e1, e2, e3, e4⟩, e5, e6, _⟩ := hF h; have e7 := (AK9 (hinv.2.2 h) hend).2; have g := Z0 h.1; have g1 := g.kind; have g2 := g.txn; have g3 := g.time; have g4 := g.lead; rw [hrr]; cases r0; simp only [E8.mk.injEq] at *; exact ⟨by omega, by omega, by omega, by omega, e5, e7, e6⟩)
 have hbd : goodRec r0 = true ∧ recB r0 = b → s.bad = false := fun h => (AK9 (hinv.2.2 h) hend).1
 subst hrr
 refine R10 ?_
 refine L0 rfl (fun hc => AS9 rfl Tryz.call19 rfl (AH1 _ (hsz (by simpa using hc))) (P7 _) (o0 (AO1 (B0 rfl hc) (c9 (B2 C8 (B2 C8 (B2 C8 (B2 C8 (B2 (G5 (C6 (i := 2) rfl) E3) (B2 (G5 (C6 (i := 3) rfl) E3) (B2 C8 J8))))))))) s0)) ?_
 refine R4 ?_
 refine L0 rfl (fun hc => AS9 rfl Tryz.call49 rfl (AR0 ⟨x22.2, x24.2, x26.2, x28.2, x35.2.1, ws, (((oneR p x28.1).2 : Int) == 1)⟩ (by simp only [Bool.not_eq_true', Bool.or_eq_false_iff, Bool.not_eq_false'] at hc; rw [V4]; exact hc.2)) (L4 _) (o0 (AO1 (B0 rfl hc) (c9 (B2 C8 (B2 C8 (B2 C8 (B2 C8 (B2 (G5 (C6 (i := 2) rfl) E3) (B2 (G5 (C6 (i := 3) rfl) E3) (B2 C8 J8))))))))) s0)) ?_
 refine R4 ?_
 refine A6 (A0 rfl) ?_ ?_
 ·intro h80
  have he := AV8 h0 hr0 hbd (by rw [V4]; exact h80)
  rw [he]
  refine R7 ?_
  refine L2 9 1 ?_
  refine L2 100 3 ?_
  exact E4 [1, 0] ((Value.slice none 0 0), (Value.slice none 0 0)) (trivial) rfl B1 (J4 rfl B5 (A7 (C4 (ys := _) 6 rfl rfl I2 G9 rfl) (A7 (A4 rfl B1) D0)))
 intro h80
 simp only [Bool.or_eq_false_iff, Bool.not_eq_false', bne_eq_false_iff_eq] at h80
 have he := AG6 (by rw [V4]; exact h80.1.2)
 rw [h80.2] at he
 rw [he]
 refine R8 ?_
 exact E4 [2, 2] (x35.2.2, vw) (trivial) rfl B1 (J4 rfl B5 (A7 (C4 (ys := _) 4 rfl rfl I2 G9 rfl) (A7 (A4 rfl B1) D0)))
end Go.Proofs.YtkibefcceekmnaaGreat
namespace Go.M
open Go.AV
theorem BK5 {b : Str} {k : Nat} (h : (!(readF b k).2.2) = true) : frameP (b.drop k) = none := by
  cases hp : frameP (b.drop k) with
  | none => rfl
  | some x => rw [(j8 (t := x.1) (j := x.2) hp).1] at h; cases h
theorem BF3 {b : Str} {k : Nat} (h : (!(readF b k).2.2) = false) : ∃ t j, frameP (b.drop k) = some (t, j) ∧ readF b k = (t, ((k + j : Nat) : Int), true) := by
  cases hp : frameP (b.drop k) with
  | none => rw [(j7 hp).1] at h; cases h
  | some x => exact ⟨x.1, x.2, rfl, (j8 hp).1⟩
theorem BF4 {b : Str} {k : Nat} (h : (readFS b k).2 < 0) : frameP (b.drop k) = none := by
  cases hp : frameP (b.drop k) with
  | none => rfl
  | some x => rw [(j8 (t := x.1) (j := x.2) hp).2] at h; dsimp only at h; omega
theorem Aw2 {b : Str} {k : Nat} (h : ¬ (readFS b k).2 < 0) : ∃ t j, frameP (b.drop k) = some (t, j) ∧ readFS b k = (t, ((k + j : Nat) : Int)) := by
  cases hp : frameP (b.drop k) with
  | none => rw [(j7 hp).2] at h; dsimp only at h; omega
  | some x => exact ⟨x.1, x.2, rfl, (j8 hp).2⟩
def Ah7 (b : Str) (acc : List Str) (k : Nat) : Prop := framesB b = (acc ++ (framesB (b.drop k)).1, k + (framesB (b.drop k)).2) ∧ k ≤ b.length ∧ acc.length ≤ k
theorem Ad1 (b : Str) : Ah7 b [] 0 := ⟨by simp, Nat.zero_le _, Nat.le_refl _⟩
theorem Ak8 {b : Str} {acc : List Str} {k j : Nat} {t : Str} (h : Ah7 b acc k) (hp : frameP (b.drop k) = some (t, j)) : Ah7 b (acc ++ [t]) (k + j) ∧ 4 ≤ j := by
  obtain ⟨h1, h2, h3⟩ := h
  obtain ⟨_, _, hk, hk4, _⟩ := v7 hp
  rw [List.length_drop] at hk
  refine ⟨⟨?_, by omega, by simp only [D5, E6, I4]; omega⟩, hk4⟩
  rw [h1, AC9 hp, List.drop_drop]
  simp only [List.append_assoc, AZ9, List.nil_append, Nat.add_assoc]
theorem As0 {b : Str} {acc : List Str} {k : Nat} (h : Ah7 b acc k) (hp : frameP (b.drop k) = none) : framesB b = (acc, k) := by
  rw [h.1, AC8 hp, List.append_nil, Nat.add_zero]
end Go.M
namespace Go.Proofs.YtkibefcceekmnaaGreat
open Go Go.AV Go.M
attribute [local irreducible] OpW OpA OpS AWP C0 I0 D7 OpE RetOk G3 H5 Le Ev F6 J1 Int.tmod Int.tdiv IntKind.wrap
theorem Ad2 (s : Str) (hs : s.length ≤ 1048576) : C0 Tryz.prog 34 [AV.str s] (AV.str (frameB s)) := by
  have hl := Y1 (n := s.length) qz5
  have hsl := X8 s
  refine B3 Tryz.func34 rfl Tryz.ntmps34 rfl ?_
  refine R2 ?_
  refine A2 rfl (E2 rfl (D4 (l := []) rfl)) ?_
  refine R5 ?_
  refine A2 rfl (A8 rfl Tryz.call43 rfl (O2 _ qz5 qz5) (A1 (A0 rfl) A3)) ?_
  refine R1 ?_
  refine A2 rfl (A8 rfl Tryz.call68 rfl (AF3 _ M5) (A1 (A0 rfl) A3)) ?_
  refine A2 rfl (J7 rfl (A0 rfl) (A0 rfl) qz58) ?_
  refine R3 ?_
  exact F0 rfl (A4 rfl B1)
theorem r4 (s : Str) (hs : s.length ≤ 1048576) : C0 Tryz.prog 55 [AV.str s] (AV.str (frameB s)) := by
  have hl := Y1 (n := s.length) qz5
  have hsl := X8 s
  refine B3 Tryz.func55 rfl Tryz.ntmps55 rfl ?_
  refine R2 ?_
  refine A2 rfl (E2 rfl (D4 (l := []) rfl)) ?_
  refine R5 ?_
  refine A2 rfl (A8 rfl Tryz.call48 rfl (T3 _ qz5 qz5) (A1 (A0 rfl) A3)) ?_
  refine R1 ?_
  refine A2 rfl (A8 rfl Tryz.call85 rfl (AG9 _ M5) (A1 (A0 rfl) A3)) ?_
  refine A2 rfl (J7 rfl (A0 rfl) (A0 rfl) qz58) ?_
  refine R3 ?_
  exact F0 rfl (A4 rfl B1)
theorem Ag4 (b : Str) (k : Nat) (hk : k ≤ b.length) (hb : b.length ≤ 1048576) : C0 Tryz.prog 94 [AV.str b, AV.int k] (AV.tup [AV.str (readF b k).1, AV.int (readF b k).2.1, AV.bool (readF b k).2.2]) := by
 refine B3 Tryz.func94 rfl Tryz.ntmps94 rfl ?_
 refine R2 ?_
 refine A2 rfl (E2 rfl (D4 (l := []) rfl)) ?_
 refine R9 ?_
 intro b14
 refine R5 ?_
 refine B6 [0] rfl rfl rfl rfl Tryz.call31 rfl (V6 b14 b ⟨k, false⟩ hk hb) (A1 (A0 rfl) A3) rfl ?_
 intro x16 ok16
 have ha9 := ok16.1.2
 have hn9 := ok16.2.1
 refine R8 ?_
 refine A6 (A0 rfl) ?_ ?_
 ·intro h18
  have k18 := of_decide_eq_true h18; try simp only [A5] at k18
  have he := (j7 (BJ3 ok16 qz5)).1
  rw [he]
  refine R2 ?_
  refine A2 rfl (E2 rfl (D4 (l := []) rfl)) ?_
  refine R4 ?_
  exact L3 rfl B5 (A7 (A4 rfl B1) (A7 (A4 rfl B1) (A7 (A4 rfl B1) D0)))
 intro h18
 have k18 := of_decide_eq_false h18; try simp only [A5] at k18
 obtain ⟨hf1, hf2⟩ := BD4 hk ok16 qz5
 have hat1 := BJ2 (n := x16.2) ha9
 have hl1 := Ak0 (b := b) (s := x16.1) (n := x16.2)
 have hl2 := Ak0 (b := b) (s := (takeR b x16.1 x16.2).1) (n := 3)
 refine R5 ?_
 refine B6 [0] rfl rfl rfl rfl Tryz.call63 rfl (e9 b14 b x16.1 x16.2 ha9 qz5 qz5) (A1 (A0 rfl) (A1 (A0 rfl) A3)) rfl ?_
 intro x21 ok21
 refine R5 ?_
 refine B6 [0] rfl rfl rfl rfl Tryz.call63 rfl (e9 b14 b (takeR b x16.1 x16.2).1 3 hat1 qz5 qz5) (A1 (A0 rfl) (A1 D6 A3)) rfl ?_
 intro x23 ok23
 refine R11 ?_
 refine L0 rfl (fun hc => A8 rfl Tryz.call68 rfl (AF3 _ qz5) (A1 (B0 rfl hc) A3)) ?_
 refine R2 ?_
 refine L0 rfl (fun hc => J7 rfl (B0 rfl hc) (B0 rfl hc) qz5) ?_
 refine R3 ?_
 refine A6 (A0 rfl) ?_ ?_
 ·intro h35
  have he := (j7 (hf1 h35)).1
  rw [he]
  refine R2 ?_
  refine A2 rfl (E2 rfl (D4 (l := []) rfl)) ?_
  refine R4 ?_
  exact L3 rfl B5 (A7 (A4 rfl B1) (A7 (A4 rfl B1) (A7 (A4 rfl B1) D0)))
 intro h35
 have he := hf2 h35
 rw [he]
 refine R13 ?_
 exact L3 rfl B5 (A7 (A4 rfl B1) (A7 (A4 rfl B1) (A7 (A4 rfl B1) D0)))
theorem Am4 (b : Str) (hb : b.length ≤ 1048576) : C0 Tryz.prog 58 [AV.str b] (AV.tup [strs (framesB b).1, AV.int (framesB b).2]) := by
 refine B3 Tryz.func58 rfl Tryz.ntmps58 rfl ?_
 refine R2 ?_
 refine A2 rfl (E2 rfl (j3 (sz := 1))) ?_
 refine R4 ?_
 refine K8 rfl rfl rfl rfl C5 G2 ?_
 intro v9
 refine R7 ?_
 refine V8 [(0, _)] _ (fun (k : Nat) (acc : List Str) (v : Value) => Ah7 b acc k) (fun (k : Nat) (acc : List Str) (v : Value) => [.arr v 9 1 (acc.map fun t => [AV.str t])]) (fun (k : Nat) (acc : List Str) (v : Value) => [(4, AV.is v), (5, AV.int k)]) (fun (k : Nat) (acc : List Str) (v : Value) => b.length - k) (0) ([]) (v9) ?_ (J5 B1 ⟨rfl, rfl, rfl, trivial⟩) ?_
 ·exact Ad1 b
 intro k acc v hinv
 have hk1 := hinv.2.1
 have hk2 := hinv.2.2
 refine R5 ?_
 refine A2 rfl (A8 rfl Tryz.call94 rfl (Ag4 _ _ M5 M5) (A1 (A0 rfl) (A1 (A0 rfl) A3))) ?_
 refine R14 ?_
 refine A6 (A0 rfl) ?_ ?_
 ·intro h18
  have he := As0 hinv (BK5 h18)
  rw [he]
  refine R1 ?_
  refine AWP.le (AX8 [0] 4 rfl rfl (G5 (C6 (i := 0) rfl) E3) AO5) ?_
  refine R7 ?_
  exact L3 rfl B5 (A7 (A4 rfl B1) (A7 (A4 rfl B1) D0))
 intro h18
 obtain ⟨t, j, hp, hr⟩ := BF3 h18
 rw [hr]
 have hnx := Ak8 hinv hp
 have hk3 := hnx.1.2.1
 have hk4 := hnx.2
 refine R6 ?_
 refine J0 (by' := 16) 0 rfl rfl rfl rfl C5 Tryz.type9 rfl rfl rfl rfl rfl rfl (A0 rfl) (A0 rfl) rfl qz1 ?_
 intro v24_1
 refine R6 ?_
 refine AN1 ?_
 refine S9 k acc v (k + j) (acc ++ [t]) (v24_1) ?_ ?_ (J5 AG1 ⟨rfl, rfl, rfl, trivial⟩)
 ·exact hnx.1
 omega
theorem Aw3 (b : Str) (k : Nat) (hk : k ≤ b.length) (hb : b.length ≤ 1048576) : C0 Tryz.prog 95 [AV.str b, AV.int k] (AV.tup [AV.str (readFS b k).1, AV.int (readFS b k).2]) := by
 refine B3 Tryz.func95 rfl Tryz.ntmps95 rfl ?_
 refine R2 ?_
 refine A2 rfl (E2 rfl (D4 (l := []) rfl)) ?_
 refine R8 ?_
 intro b13
 refine R5 ?_
 refine B6 [0] rfl rfl rfl rfl Tryz.call97 rfl (Y2 b13 b ⟨k, false⟩ hk hb) (A1 (A0 rfl) A3) rfl ?_
 intro x15 ok15
 have ha9 := ok15.1.2
 have ha8 := ok15.1.1
 have hn9 := ok15.2.1
 obtain ⟨hs1, hs2⟩ := BD5 hk ok15
 refine R26 ?_
 refine A6 (A0 rfl) ?_ ?_
 ·intro h35
  have he := (j7 (hs1 (by simp only [Bool.or_eq_true, decide_eq_true_eq] at h35; rcases h35 with (h9 | h9) | h9; exact .inl h9; exact .inr (.inl qz5); exact .inr (.inr qz5)))).2
  rw [he]
  refine R2 ?_
  refine A2 rfl (E2 rfl (D4 (l := []) rfl)) ?_
  refine R3 ?_
  exact L3 rfl B5 (A7 (A4 rfl B1) (A7 (A4 rfl B1) D0))
 intro h35
 simp only [Bool.or_eq_false_iff, decide_eq_false_iff_not] at h35
 obtain ⟨hs3, hs4⟩ := hs2 h35.1.1 qz5 qz5
 refine R14 ?_
 refine A9 rfl rfl (a9 rfl C3 (A0 rfl) (A0 rfl) (A0 rfl) qz1 qz1 qz1) ?_
 refine R15 ?_
 have htn : ((x15.1.at' : Int) + (x15.2 : Int) + 3).toNat = x15.1.at' + x15.2 + 3 := by omega
 refine R2 ?_
 rw [show ((x15.1.at' : Int) + (x15.2 : Int)).toNat = x15.1.at' + x15.2 by omega, Int.toNat_natCast, List.drop_take, Nat.add_sub_cancel_left]
 refine A9 rfl rfl (A8 rfl Tryz.call55 rfl (r4 ((b.drop x15.1.at').take x15.2) (by rw [H2]; omega)) (A1 (A0 rfl) A3)) ?_
 refine R3 ?_
 refine A9 rfl rfl (a9 rfl C3 (A0 rfl) (A0 rfl) (A0 rfl) qz1 qz1 qz1) ?_
 refine R2 ?_
 refine A6 (A0 rfl) ?_ ?_
 ·intro h61
  simp only [htn, Int.toNat_natCast, List.drop_take] at h61
  have he := (j7 (hs3 (by simpa using h61))).2
  rw [he]
  refine R2 ?_
  refine A2 rfl (E2 rfl (D4 (l := []) rfl)) ?_
  refine R3 ?_
  exact L3 rfl B5 (A7 (A4 rfl B1) (A7 (A4 rfl B1) D0))
 intro h61
 simp only [htn, Int.toNat_natCast, List.drop_take] at h61
 have he := hs4 (by simpa using h61)
 rw [he]
 refine R9 ?_
 exact L3 rfl B5 (A7 (A4 rfl B1) (A7 (A4 rfl B1) D0))
theorem AA5 (b : Str) (hb : b.length ≤ 1048576) : C0 Tryz.prog 59 [AV.str b] (AV.tup [strs (framesB b).1, AV.int (framesB b).2]) := by
 refine B3 Tryz.func59 rfl Tryz.ntmps59 rfl ?_
 refine R2 ?_
 refine A2 rfl (E2 rfl (j3 (sz := 1))) ?_
 refine R4 ?_
 refine K8 rfl rfl rfl rfl C5 G2 ?_
 intro v8
 refine R7 ?_
 refine V8 [(0, _)] _ (fun (k : Nat) (acc : List Str) (v : Value) => Ah7 b acc k) (fun (k : Nat) (acc : List Str) (v : Value) => [.arr v 9 1 (acc.map fun t => [AV.str t])]) (fun (k : Nat) (acc : List Str) (v : Value) => [(4, AV.is v), (5, AV.int k)]) (fun (k : Nat) (acc : List Str) (v : Value) => b.length - k) (0) ([]) (v8) ?_ (J5 B1 ⟨rfl, rfl, rfl, trivial⟩) ?_
 ·exact Ad1 b
 intro k acc v hinv
 have hk1 := hinv.2.1
 have hk2 := hinv.2.2
 refine R5 ?_
 refine A2 rfl (A8 rfl Tryz.call95 rfl (Aw3 _ _ M5 M5) (A1 (A0 rfl) (A1 (A0 rfl) A3))) ?_
 refine R12 ?_
 refine A6 (A0 rfl) ?_ ?_
 ·intro h16
  have k16 := of_decide_eq_true h16; try simp only [A5] at k16
  have he := As0 hinv (BF4 k16)
  rw [he]
  refine R1 ?_
  refine AWP.le (AX8 [0] 4 rfl rfl (G5 (C6 (i := 0) rfl) E3) AO5) ?_
  refine R7 ?_
  exact L3 rfl B5 (A7 (A4 rfl B1) (A7 (A4 rfl B1) D0))
 intro h16
 have k16 := of_decide_eq_false h16; try simp only [A5] at k16
 obtain ⟨t, j, hp, hr⟩ := Aw2 k16
 rw [hr]
 have hnx := Ak8 hinv hp
 have hk3 := hnx.1.2.1
 have hk4 := hnx.2
 refine R6 ?_
 refine J0 (by' := 16) 0 rfl rfl rfl rfl C5 Tryz.type9 rfl rfl rfl rfl rfl rfl (A0 rfl) (A0 rfl) rfl qz1 ?_
 intro v22_1
 refine R6 ?_
 refine AN1 ?_
 refine S9 k acc v (k + j) (acc ++ [t]) (v22_1) ?_ ?_ (J5 AG1 ⟨rfl, rfl, rfl, trivial⟩)
 ·exact hnx.1
 omega
end Go.Proofs.YtkibefcceekmnaaGreat
namespace Go.M
open Go.AV
theorem Ak9 {d : G6} (h : goodDisk d = true) : d.Kept.length + d.Loose.length ≤ 50000 := by
  have := of_decide_eq_true h; omega
theorem Am5 {d : G6} (h : mendable d = true) : d.Kept.length ≤ 50000 ∧ d.Loose = [] ∧ goodDisk d = true := by
  unfold mendable at h
  simp only [Bool.and_eq_true] at h
  obtain ⟨h1, h2⟩ := h
  have := Ak9 h1
  exact ⟨by omega, by simpa using h2, h1⟩
theorem BF5 (s : Str) : (framesB s).2 ≤ s.length := (q8 s).2.1
theorem AW5 {s : Str} (h : s.length ≤ 1048576) : (frameB s).length ≤ s.length + 12 := by
  rw [Q4]; have := Y1 (n := s.length) qz5; omega
end Go.M
namespace Go.Proofs.YtkibefcceekmnaaGreat
open Go Go.AV Go.M
attribute [local irreducible] OpW OpA OpS AWP C0 I0 D7 OpE RetOk G3 H5 Le Ev F6 J1 Int.tmod Int.tdiv IntKind.wrap
theorem AA6 (d : G6) (hd : d.size ≤ 1048576) : C0 Tryz.prog 26 [AV.agg d.cs] (AV.bool (goodDisk d)) := by
  have hd2 : d.Kept.length + d.Loose.length ≤ 1048576 := hd
  refine B3 Tryz.func26 rfl Tryz.ntmps26 rfl ?_
  refine R3 ?_
  intro b1
  refine R15 ?_
  exact F0 rfl (A4 rfl B1)
theorem W4 (d : G6) (hd : d.size ≤ 1048576) : C0 Tryz.prog 56 [AV.agg d.cs] (AV.bool (goodDisk d)) := by
  have hd2 : d.Kept.length + d.Loose.length ≤ 1048576 := hd
  refine B3 Tryz.func56 rfl Tryz.ntmps56 rfl ?_
  refine R3 ?_
  intro b1
  refine R15 ?_
  exact F0 rfl (A4 rfl B1)
theorem Aw4 (d : G6) (hd : d.size ≤ 1048576) : C0 Tryz.prog 33 [AV.agg d.cs] (AV.tup [AV.agg (ifDisk d).1.cs, AV.bool (ifDisk d).2]) := by
 refine B3 Tryz.func33 rfl Tryz.ntmps33 rfl ?_
 refine R3 ?_
 intro b1
 refine R1 ?_
 intro b2
 refine R6 ?_
 refine A2 rfl (A8 rfl Tryz.call26 rfl (AA6 d hd) (A1 (A0 rfl) A3)) ?_
 refine R2 ?_
 refine A6 (A0 rfl) ?_ ?_
 ·intro h6
  have he : ifDisk d = (T9, false) := if_pos h6
  rw [he]
  refine R7 ?_
  exact L3 rfl B5 (A7 (C4 (ys := _) 0 rfl rfl I1 B9 rfl) (A7 (A4 rfl B1) D0))
 intro h6
 have he : ifDisk d = (d, true) := if_neg (by rw [h6]; decide)
 rw [he]
 refine R8 ?_
 exact L3 rfl B5 (A7 (C4 (ys := _) 0 rfl rfl I1 B9 rfl) (A7 (A4 rfl B1) D0))
theorem Ag5 (d : G6) (s : Str) (hd : d.size ≤ 524288) (hs : s.length ≤ 524200) : C0 Tryz.prog 13 [AV.agg d.cs, AV.str s] (AV.tup [AV.agg (writeD d s).1.cs, AV.bool (writeD d s).2]) := by
 have hd2 : d.Kept.length + d.Loose.length ≤ 524288 := hd
 have hfl := AW5 (s := s) qz5
 refine B3 Tryz.func13 rfl Tryz.ntmps13 rfl ?_
 refine R3 ?_
 intro b2
 refine R1 ?_
 intro b4
 refine R6 ?_
 refine A2 rfl (A8 rfl Tryz.call26 rfl (AA6 d Ae8) (A1 (A0 rfl) A3)) ?_
 refine R7 ?_
 refine A6 (A0 rfl) ?_ ?_
 ·intro h13
  have he : writeD d s = (T9, false) := if_pos h13
  rw [he]
  refine R7 ?_
  exact L3 rfl B5 (A7 (C4 (ys := _) 0 rfl rfl I1 B9 rfl) (A7 (A4 rfl B1) D0))
 intro h13
 have he : writeD d s = ifDisk ⟨d.Kept, d.Loose ++ frameB s⟩ := if_neg (by rw [h13]; decide)
 rw [he]
 refine R2 ?_
 refine N4 11 F9 F9 rfl ?_
 refine R5 ?_
 refine A9 rfl rfl (A8 rfl Tryz.call34 rfl (Ad2 _ M5) (A1 (A0 rfl) A3)) ?_
 refine A9 rfl rfl (J7 rfl (A0 rfl) (A0 rfl) qz8) ?_
 refine R1 ?_
 refine A9 rfl rfl (A8 rfl Tryz.call33 rfl (Aw4 ⟨d.Kept, d.Loose ++ frameB s⟩ (by show d.Kept.length + (d.Loose ++ frameB s).length ≤ _; rw [D5]; omega)) (A1 (A0 rfl) A3)) ?_
 refine R7 ?_
 exact L3 rfl B5 (A7 (C4 (ys := _) 0 rfl rfl I1 B9 rfl) (A7 (A4 rfl B1) D0))
theorem f1 (d : G6) (s : Str) (hd : d.size ≤ 524288) (hs : s.length ≤ 524200) : C0 Tryz.prog 24 [AV.agg d.cs, AV.str s] (AV.tup [AV.agg (writeD d s).1.cs, AV.bool (writeD d s).2]) := by
 have hd2 : d.Kept.length + d.Loose.length ≤ 524288 := hd
 have hfl := AW5 (s := s) qz5
 refine B3 Tryz.func24 rfl Tryz.ntmps24 rfl ?_
 refine R3 ?_
 intro b2
 refine R1 ?_
 intro b4
 refine R3 ?_
 refine X6 _ 9 (.pure 0 (.pure 1 (.pure 2 (.pure 3 (.pure 4 (.pure 5 (.pure 6 (.pure 7 (.e1 8 .nil))))))))) F9 F9 rfl AE7 ?_
 refine R5 ?_
 refine L5 rfl rfl rfl (fun ext => A8 rfl Tryz.call55 rfl (r4 _ M5) (A1 (A0 rfl) A3)) ?_
 refine L5 rfl rfl rfl (fun ext => J7 rfl (A0 rfl) (A0 rfl) qz8) ?_
 refine R2 ?_
 refine I7 rfl rfl rfl (X5 rfl Tryz.zeroValue34 rfl) (fun a _ => qz2) ?_
 intro b6 _
 refine R7 ?_
 refine A2 rfl (A8 rfl Tryz.call56 rfl (W4 d Ae8) (A1 (A0 rfl) A3)) ?_
 refine R8 ?_
 refine L0 rfl (fun hc => A8 rfl Tryz.call56 rfl (W4 ⟨d.Kept, d.Loose ++ frameB s⟩ (by show d.Kept.length + (d.Loose ++ frameB s).length ≤ _; rw [D5]; omega)) (A1 (B0 rfl hc) A3)) ?_
 refine R3 ?_
 refine A6 (A0 rfl) ?_ ?_
 ·intro h27
  have he : writeD d s = (T9, false) := by (unfold writeD; split; rfl; (rename_i hh; unfold ifDisk; rw [if_pos]; simp only [Bool.or_eq_true, decide_eq_true_eq] at h27 hh; rcases h27 with h9 | h9; exact absurd h9 hh; exact h9))
  rw [he]
  refine R7 ?_
  exact L3 rfl B5 (A7 (C4 (ys := _) 0 rfl rfl I1 B9 rfl) (A7 (A4 rfl B1) D0))
 intro h27
 have he : writeD d s = (⟨d.Kept, d.Loose ++ frameB s⟩, true) := by (simp only [Bool.or_eq_false_iff] at h27; unfold writeD; rw [if_neg (by rw [Bool.or_eq_true]; intro hc; rcases hc with hc | hc; (rw [h27.1.1] at hc; cases hc); (rw [h27.1.2] at hc; cases hc))]; unfold ifDisk; rw [if_neg (by rw [h27.2]; decide)])
 rw [he]
 refine R8 ?_
 exact L3 rfl B5 (A7 (C4 (ys := _) 0 rfl rfl I1 B9 rfl) (A7 (A4 rfl B1) D0))
theorem s8 (d : G6) (hd : d.size ≤ 1048576) : C0 Tryz.prog 90 [AV.agg d.cs] (AV.tup [AV.agg (mendD d).1.cs, AV.bool (mendD d).2]) := by
 refine B3 Tryz.func90 rfl Tryz.ntmps90 rfl ?_
 refine R3 ?_
 intro b1
 refine R1 ?_
 intro b2
 refine R6 ?_
 refine A2 rfl (A8 rfl Tryz.call56 rfl (W4 d hd) (A1 (A0 rfl) A3)) ?_
 refine R4 ?_
 refine L0 rfl (fun hc => Aa4 rfl (B0 rfl hc) (D4 (l := []) rfl)) ?_
 refine R2 ?_
 refine A6 (A0 rfl) ?_ ?_
 ·intro h13
  have hm : (!mendable d) = true := by (unfold mendable; simpa [bne, Bool.not_and] using h13)
  have he : mendD d = (T9, false) := if_pos hm
  rw [he]
  refine R7 ?_
  exact L3 rfl B5 (A7 (C4 (ys := _) 0 rfl rfl I1 B9 rfl) (A7 (A4 rfl B1) D0))
 intro h13
 have hm0 : (!mendable d) = false := by (unfold mendable; simpa [bne, Bool.not_and] using h13)
 have he : mendD d = (⟨d.Kept.take (framesB d.Kept).2, []⟩, true) := if_neg (by rw [hm0]; decide)
 rw [he]
 have hm : mendable d = true := (by simpa using hm0)
 obtain ⟨hm1, hm2, hm3⟩ := Am5 hm
 have hfl := BF5 d.Kept
 refine R5 ?_
 refine A2 rfl (A8 rfl Tryz.call59 rfl (AA5 _ M5) (A1 (A0 rfl) A3)) ?_
 refine R11 ?_
 refine A2 rfl (a8 rfl C3 (A0 rfl) (A0 rfl) qz1 qz1) ?_
 refine R5 ?_
 exact L3 rfl B5 (A7 (C4 (ys := _) 0 rfl rfl I1 B9 rfl) (A7 (A4 rfl B1) D0))
theorem Ag6 (d : G6) (hd : d.size ≤ 1048576) : C0 Tryz.prog 28 [AV.agg d.cs] (AV.tup [strs (K9 d).1, AV.int (K9 d).2.1, AV.bool (K9 d).2.2]) := by
 refine B3 Tryz.func28 rfl Tryz.ntmps28 rfl ?_
 refine R3 ?_
 intro b1
 refine A2 rfl (E2 rfl (j3 (sz := 1))) ?_
 refine R7 ?_
 refine A2 rfl (A8 rfl Tryz.call56 rfl (W4 d hd) (A1 (A0 rfl) A3)) ?_
 refine R2 ?_
 refine A6 (A0 rfl) ?_ ?_
 ·intro h9
  have he : K9 d = ([], 0, false) := if_pos h9
  rw [he]
  refine R8 ?_
  exact L3 rfl B5 (A7 (A4 rfl B1) (A7 (A4 rfl B1) (A7 (A4 rfl B1) D0)))
 intro h9
 have he : K9 d = ((framesB (d.Kept ++ d.Loose)).1, ((framesB (d.Kept ++ d.Loose)).2 : Int), true) := if_neg (by rw [h9]; decide)
 rw [he]
 have hm3 : goodDisk d = true := (by simpa using h9)
 have hm1 := Ak9 hm3
 have hal : (d.Kept ++ d.Loose).length ≤ 50000 := by (rw [D5]; exact hm1)
 refine R7 ?_
 refine A2 rfl (J7 rfl (A0 rfl) (A0 rfl) qz8) ?_
 refine A2 rfl (A8 rfl Tryz.call59 rfl (AA5 _ M5) (A1 (A0 rfl) A3)) ?_
 refine R15 ?_
 exact L3 rfl B5 (A7 (A4 rfl B1) (A7 (A4 rfl B1) (A7 (A4 rfl B1) D0)))
end Go.Proofs.YtkibefcceekmnaaGreat
namespace Go.M
open Go.AV
theorem BA9 {b c : Bool} (h : (!b || !c) = true) : (b && c) = false := by cases b <;> cases c <;> first | rfl | cases h
theorem is_ent {b c : Bool} (h : (!b || !c) = false) : (b && c) = true := by cases b <;> cases c <;> first | rfl | cases h
theorem AW6 {e : B8} (h : L8 e = false) : N1 e = ([], false) := by unfold N1; rw [if_neg qz67]
theorem AR1 {e : B8} (h : L8 e = true) : N1 e = (entB e, true) := by unfold N1; rw [if_pos h]
theorem Al0 {e : B8} (h : L8 e = true) : (1 ≤ e.Term ∧ e.Term ≤ 200) ∧ goodRec e.Rec = true := by
  unfold L8 at h
  rw [Bool.and_eq_true] at h
  exact ⟨by have h1 := h.1; unfold within at h1; rw [Bool.and_eq_true, decide_eq_true_eq, decide_eq_true_eq] at h1; exact h1, h.2⟩
theorem AR2 {b : Str} (h : numP b = none) : K0 b = (AS3, false) := by unfold K0; rw [h]
theorem AD5 {b : Str} {n k : Nat} (h : numP b = some (n, k)) : K0 b = if within (n : Int) 1 200 = true ∧ (readRecR (b.drop k)).2 = true then (⟨n, (readRecR (b.drop k)).1⟩, true) else (AS3, false) := by unfold K0; rw [h]
theorem Al1 {b : Str} {x : E0 × Nat} (h : M2 b ⟨0, false⟩ x) : (numP b = none ∧ x.1.bad = true) ∨ (numP b = some (x.2, x.1.at') ∧ x.1.bad = false) := by
  rcases w1 h with ⟨h1, h2, _⟩ | ⟨n, j, h1, h2⟩
  · rw [List.drop_zero] at h1; exact .inl ⟨h1, h2⟩
  · rw [List.drop_zero] at h1
    subst h2
    exact .inr ⟨by rw [h1, Nat.zero_add], rfl⟩
theorem Aw5 {b : Str} {x : E0 × Nat} (h : M2 b ⟨0, false⟩ x) (hc : (x.1.bad || !within (x.2 : Int) 1 200) = true) : K0 b = (AS3, false) := by
  rcases Al1 h with ⟨h1, _⟩ | ⟨h1, h2⟩
  · exact AR2 h1
  · rw [AD5 h1, if_neg]
    rintro ⟨h3, _⟩
    rw [h2, h3] at hc; cases hc
theorem As1 {b : Str} {x : E0 × Nat} (h : M2 b ⟨0, false⟩ x) (hc : (x.1.bad || !within (x.2 : Int) 1 200) = false) : K0 b = if (readRecR (b.drop x.1.at')).2 = true then (⟨x.2, (readRecR (b.drop x.1.at')).1⟩, true) else (AS3, false) := by
  rw [Bool.or_eq_false_iff] at hc
  rcases Al1 h with ⟨_, h2⟩ | ⟨h1, h2⟩
  · rw [h2] at hc; cases hc.1
  · rw [AD5 h1]
    have h3 : within (x.2 : Int) 1 200 = true := by have := hc.2; cases hw : within (x.2 : Int) 1 200 <;> simp_all
    simp only [h3, true_and]
theorem As2 {b : Str} (hb : b.length ≤ 1048576) (h : numP b = none) : readNumR b 0 = (0, 0, false) := by
  unfold readNumR
  split
  · rfl
  · rw [show (0 : Int).toNat = 0 from rfl, List.drop_zero, h]
theorem As3 {b : Str} (hp : placeB b 0 = true) {n k : Nat} (h : numP b = some (n, k)) : readNumR b 0 = ((n : Int), (k : Int), true) := by
  unfold readNumR
  rw [if_neg (by rw [hp]; exact Bool.false_ne_true), show (0 : Int).toNat = 0 from rfl, List.drop_zero, h]
  dsimp only
  rw [Int.zero_add]
end Go.M
namespace Go.Proofs.YtkibefcceekmnaaGreat
open Go Go.AV Go.M
attribute [local irreducible] OpW OpA OpS AWP C0 I0 D7 OpE RetOk G3 H5 Le Ev F6 J1 Int.tmod Int.tdiv IntKind.wrap
theorem Am6 (b : Str) (hs : b.length ≤ 1048576) : C0 Tryz.prog 32 [AV.str b] (AV.tup [AV.agg (readRecR b).1.cs, AV.bool (readRecR b).2]) :=
  O1 (Aw1 b hs) fun x _ => AH7 (B2 (c9 (E8.lc _ x)) (B2 C8 J8))
theorem Ag7 (b : Str) (hs : b.length ≤ 1048576) : C0 Tryz.prog 61 [AV.str b] (AV.tup [AV.agg (readRecR b).1.cs, AV.bool (readRecR b).2]) :=
  O1 (Ar9 b hs) fun x _ => AH7 (B2 (c9 (E8.lc _ x)) (B2 C8 J8))
theorem Ag8 (e : B8) (h : L8 e = true) (hs : e.size ≤ 1048576) : C0 Tryz.prog 17 [AV.agg e.cs] (AV.str (entB e)) := by
  obtain ⟨ht, hr⟩ := Al0 h
  have hrl := AY5 (Z0 hr)
  have hnl := Q9 (n := e.Term.toNat) qz5
  refine B3 Tryz.func17 rfl Tryz.ntmps17 rfl ?_
  refine R3 ?_
  intro b1
  refine A2 rfl (E2 rfl (D4 (l := []) rfl)) ?_
  refine R5 ?_
  refine A9 rfl rfl (A8 rfl Tryz.call43 rfl (O2 _ qz5 qz5) (A1 (A0 rfl) A3)) ?_
  refine R1 ?_
  refine A9 rfl rfl (U7 _ 0 rfl (A0 rfl) rfl I2 G9 rfl rfl) ?_
  refine A9 rfl rfl (A8 rfl Tryz.call44 rfl (AM6 e.Rec hr) (A1 (A0 rfl) A3)) ?_
  refine A9 rfl rfl (J7 rfl (A0 rfl) (A0 rfl) qz5) ?_
  refine R3 ?_
  exact F0 rfl (A4 rfl B1)
theorem s9 (e : B8) (h : L8 e = true) (hs : e.size ≤ 1048576) : C0 Tryz.prog 20 [AV.agg e.cs] (AV.str (entB e)) := by
  obtain ⟨ht, hr⟩ := Al0 h
  have hrl := AY5 (Z0 hr)
  have hnl := Q9 (n := e.Term.toNat) qz5
  refine B3 Tryz.func20 rfl Tryz.ntmps20 rfl ?_
  refine R3 ?_
  intro b1
  refine A2 rfl (E2 rfl (D4 (l := []) rfl)) ?_
  refine R5 ?_
  refine A9 rfl rfl (A8 rfl Tryz.call48 rfl (T3 _ qz5 qz5) (A1 (A0 rfl) A3)) ?_
  refine R1 ?_
  refine A9 rfl rfl (U7 _ 0 rfl (A0 rfl) rfl I2 G9 rfl rfl) ?_
  refine A9 rfl rfl (A8 rfl Tryz.call49 rfl (AR0 e.Rec hr) (A1 (A0 rfl) A3)) ?_
  refine A9 rfl rfl (J7 rfl (A0 rfl) (A0 rfl) qz5) ?_
  refine R3 ?_
  exact F0 rfl (A4 rfl B1)
theorem Ad3 (e : B8) (hs : e.size ≤ 1048576) : C0 Tryz.prog 6 [AV.agg e.cs] (AV.tup [AV.str (N1 e).1, AV.bool (N1 e).2]) := by
 refine B3 Tryz.func6 rfl Tryz.ntmps6 rfl ?_
 refine R3 ?_
 intro b1
 refine A2 rfl (E2 rfl (D4 (l := []) rfl)) ?_
 refine R7 ?_
 refine A2 rfl (A8 rfl Tryz.call15 rfl (Y9 _ _ _) (A1 (A0 rfl) (A1 D6 (A1 D6 A3)))) ?_
 refine R3 ?_
 refine L0 rfl (fun hc => U7 _ 0 rfl (B0 rfl hc) rfl I2 G9 rfl rfl) ?_
 refine L0 rfl (fun hc => A8 rfl Tryz.call16 rfl (AQ9 e.Rec hs) (A1 (B0 rfl hc) A3)) ?_
 refine R3 ?_
 refine A6 (A0 rfl) ?_ ?_
 ·intro h13
  rw [AW6 (BA9 h13)]
  refine R2 ?_
  refine A2 rfl (E2 rfl (D4 (l := []) rfl)) ?_
  refine R3 ?_
  exact L3 rfl B5 (A7 (A4 rfl B1) (A7 (A4 rfl B1) D0))
 intro h13
 have hg : L8 e = true := is_ent h13
 rw [AR1 hg]
 refine R4 ?_
 refine A2 rfl (A8 rfl Tryz.call17 rfl (Ag8 e hg hs) (A1 (A0 rfl) A3)) ?_
 refine R4 ?_
 exact L3 rfl B5 (A7 (A4 rfl B1) (A7 (A4 rfl B1) D0))
theorem AZ2 (e : B8) (hs : e.size ≤ 1048576) : C0 Tryz.prog 7 [AV.agg e.cs] (AV.tup [AV.str (N1 e).1, AV.bool (N1 e).2]) := by
 refine B3 Tryz.func7 rfl Tryz.ntmps7 rfl ?_
 refine R3 ?_
 intro b1
 refine A2 rfl (E2 rfl (D4 (l := []) rfl)) ?_
 refine R7 ?_
 refine A2 rfl (A8 rfl Tryz.call18 rfl (M0 _ _ _) (A1 (A0 rfl) (A1 D6 (A1 D6 A3)))) ?_
 refine R3 ?_
 refine L0 rfl (fun hc => U7 _ 0 rfl (B0 rfl hc) rfl I2 G9 rfl rfl) ?_
 refine L0 rfl (fun hc => A8 rfl Tryz.call19 rfl (AH1 e.Rec hs) (A1 (B0 rfl hc) A3)) ?_
 refine R3 ?_
 refine A6 (A0 rfl) ?_ ?_
 ·intro h13
  rw [AW6 (by have h9 := BA9 h13; rw [← V4] at h9; exact h9)]
  refine R2 ?_
  refine A2 rfl (E2 rfl (D4 (l := []) rfl)) ?_
  refine R3 ?_
  exact L3 rfl B5 (A7 (A4 rfl B1) (A7 (A4 rfl B1) D0))
 intro h13
 have hg : L8 e = true := (by have h9 := is_ent h13; rw [← V4] at h9; exact h9)
 rw [AR1 hg]
 refine R4 ?_
 refine A2 rfl (A8 rfl Tryz.call20 rfl (s9 e hg hs) (A1 (A0 rfl) A3)) ?_
 refine R4 ?_
 exact L3 rfl B5 (A7 (A4 rfl B1) (A7 (A4 rfl B1) D0))
theorem AI2 (b : Str) (hb : b.length ≤ 1048576) : C0 Tryz.prog 12 [AV.str b] (AV.tup [AV.agg (K0 b).1.cs, AV.bool (K0 b).2]) := by
 refine B3 Tryz.func12 rfl Tryz.ntmps12 rfl ?_
 refine R3 ?_
 intro b2
 refine R7 ?_
 intro b10
 refine R5 ?_
 refine B6 [0] rfl rfl rfl rfl Tryz.call31 rfl (V6 b10 b ⟨0, false⟩ (Nat.zero_le _) hb) (A1 (A0 rfl) A3) rfl ?_
 intro x12 ok12
 refine R11 ?_
 refine L0 rfl (fun hc => A8 rfl Tryz.call15 rfl (Y9 _ _ _) (A1 (B0 rfl hc) (A1 D6 (A1 D6 A3)))) ?_
 refine R3 ?_
 refine A6 (A0 rfl) ?_ ?_
 ·intro h21
  rw [Aw5 ok12 h21]
  refine R7 ?_
  refine T2 1 5 1 rfl rfl ?_
  refine T2 1 6 3 rfl rfl ?_
  exact L3 rfl B5 (A7 (C4 (ys := _) 1 rfl rfl Q0 G1 rfl) (A7 (A4 rfl B1) D0))
 intro h21
 rw [As1 ok12 h21]
 have hat := ok12.1.2
 refine R8 ?_
 refine A2 rfl (AC5 rfl C3 (A0 rfl) (A0 rfl) qz1 qz1) ?_
 refine A2 rfl (A8 rfl Tryz.call32 rfl (Am6 _ (by rw [List.length_drop]; omega)) (A1 (A0 rfl) A3)) ?_
 refine R4 ?_
 intro b6
 refine R9 ?_
 refine A6 (A0 rfl) ?_ ?_
 ·intro h34
  rw [if_neg Ae5]
  refine R7 ?_
  refine T2 2 5 1 rfl rfl ?_
  refine T2 2 6 3 rfl rfl ?_
  exact L3 rfl B5 (A7 (C4 (ys := _) 2 rfl rfl Q0 G1 rfl) (A7 (A4 rfl B1) D0))
 intro h34
 rw [if_pos Ae5]
 refine R10 ?_
 exact L3 rfl B5 (A7 (C4 (ys := _) 2 rfl rfl Q0 G1 rfl) (A7 (A4 rfl B1) D0))
theorem Ad4 (b : Str) (hb : b.length ≤ 700) : C0 Tryz.prog 29 [AV.str b] (AV.tup [AV.agg (K0 b).1.cs, AV.bool (K0 b).2]) := by
 have hp : placeB b 0 = true := by unfold placeB within; simp; omega
 obtain ⟨q, hq⟩ : ∃ q, numP b = q := ⟨_, rfl⟩
 cases q with
 | none =>
  refine B3 Tryz.func29 rfl Tryz.ntmps29 rfl ?_
  refine R3 ?_
  intro b2
  refine R5 ?_
  refine A2 rfl (A8 rfl Tryz.call60 rfl ((by have h9 := AM4 b 0 qz5; rw [As2 qz5 hq] at h9; exact h9)) (A1 (A0 rfl) (A1 D6 A3))) ?_
  refine R14 ?_
  refine A6 (A0 rfl) ?_ ?_
  ·intro h16
   rw [AR2 hq]
   refine R7 ?_
   refine T2 0 5 1 rfl rfl ?_
   refine T2 0 6 3 rfl rfl ?_
   exact L3 rfl B5 (A7 (C4 (ys := _) 0 rfl rfl Q0 G1 rfl) (A7 (A4 rfl B1) D0))
  intro h16
  cases h16
 | some z =>
  obtain ⟨n, k⟩ := z
  have hkl := (AY2 hq).1
  refine B3 Tryz.func29 rfl Tryz.ntmps29 rfl ?_
  refine R3 ?_
  intro b2
  refine R5 ?_
  refine A2 rfl (A8 rfl Tryz.call60 rfl ((by have h9 := AM4 b 0 qz5; rw [As3 hp hq] at h9; exact h9)) (A1 (A0 rfl) (A1 D6 A3))) ?_
  refine R14 ?_
  refine A6 (A0 rfl) ?_ ?_
  ·intro h16
   cases h16
  intro h16
  rw [AD5 hq]
  refine R5 ?_
  refine A2 rfl (AC5 rfl C3 (A0 rfl) (A0 rfl) qz1 qz1) ?_
  refine A2 rfl (A8 rfl Tryz.call61 rfl (Ag7 _ (by rw [List.length_drop]; omega)) (A1 (A0 rfl) A3)) ?_
  refine R4 ?_
  intro b7
  refine R10 ?_
  refine L0 rfl (fun hc => A8 rfl Tryz.call18 rfl (M0 _ _ _) (A1 (B0 rfl hc) (A1 D6 (A1 D6 A3)))) ?_
  refine R3 ?_
  refine A6 (A0 rfl) ?_ ?_
  ·intro h31
   rw [if_neg (by rintro ⟨h1, h2⟩; have h9 := h31; rw [h1] at h9; rw [show (readRecR (b.drop (k : Int).toNat)).2 = true from h2] at h9; cases h9)]
   refine R7 ?_
   refine T2 1 5 1 rfl rfl ?_
   refine T2 1 6 3 rfl rfl ?_
   exact L3 rfl B5 (A7 (C4 (ys := _) 1 rfl rfl Q0 G1 rfl) (A7 (A4 rfl B1) D0))
  intro h31
  rw [if_pos (by have h9 := h31; rw [Bool.or_eq_false_iff, Bool.not_eq_false', Bool.not_eq_false'] at h9; exact ⟨h9.2, h9.1⟩)]
  refine R10 ?_
  exact L3 rfl B5 (A7 (C4 (ys := _) 1 rfl rfl Q0 G1 rfl) (A7 (A4 rfl B1) D0))
end Go.Proofs.YtkibefcceekmnaaGreat
namespace Go.AV
open Go.Sort
section ordered
variable {P : Program} {f : FuncId} {t : TypeId} {α : Type} [Inhabited α]
end ordered
end Go.AV
namespace Go.Proofs
open Go.Shelf
end Go.Proofs
namespace Go.Proofs.YtkibefcceekmnaaGreat
open Go Go.AV Go.M
attribute [local irreducible] OpW OpA OpS AWP C0 I0 D7 OpE RetOk G3 H5 Le Ev F6 J1 Int.tmod Int.tdiv IntKind.wrap
theorem AF4 (x y : B4) : (x.Key == y.Key && (x.Val == y.Val && (x.Gone == y.Gone && true))) = decide (x = y) := by
  cases x; cases y
  rw [Bool.eq_iff_iff]
  simp
theorem Aw6 (a b : List Str) : C0 Tryz.prog 102 [strs a, strs b] (AV.bool (decide (a = b))) := by
 refine B3 Tryz.func102 rfl Tryz.ntmps102 rfl ?_
 refine Z2 (t := 0) rfl fun hl => ?_
 try simp only [A5] at hl
 refine Z2 (t := 1) rfl fun hl2 => ?_
 try simp only [A5] at hl2
 refine R13 ?_
 refine A6 (A0 rfl) ?_ ?_
 ·intro h10
  have k10 := AN3 h10; try simp only [A5] at k10
  have hne : decide (a = b) = false := decide_eq_false fun e => by (subst e; omega)
  rw [hne]
  refine R5 ?_
  exact F0 rfl (A4 rfl B1)
 intro h10
 have k10 := p4 h10; try simp only [A5] at k10
 refine R9 ?_
 refine H7 [(0, _), (1, _), (12, _)] _ (fun (i : Nat) => i ≤ a.length ∧ a.take i = b.take i) (fun (i : Nat) => []) (fun (i : Nat) => [(13, AV.int i)]) (fun (i : Nat) => a.length - i) (0) ?_ (G7 ⟨rfl, rfl, rfl, rfl, trivial⟩) ?_
 ·exact ⟨Nat.zero_le _, rfl⟩
 intro i hinv
 refine R5 ?_
 refine A6 (A0 rfl) ?_ ?_
 ·intro h14
  have k14 := of_decide_eq_true h14; try simp only [A5] at k14
  have hlt : i < a.length := by omega
  obtain ⟨x, hx⟩ := E7 hlt
  obtain ⟨y, hy⟩ := E7 (show i < b.length by omega)
  refine R12 ?_
  refine A9 rfl rfl (F1 rfl C5 G2 (A0 rfl) (A0 rfl) hx qz1) ?_
  refine R3 ?_
  refine A9 rfl rfl (F1 rfl C5 G2 (A0 rfl) (A0 rfl) hy qz1) ?_
  refine R3 ?_
  refine A6 (A0 rfl) ?_ ?_
  ·intro h24
   have hne : decide (a = b) = false := decide_eq_false fun e => by (subst e; rw [hx] at hy; injection hy with hy; simp [hy] at h24)
   rw [hne]
   refine R5 ?_
   exact F0 rfl (A4 rfl B1)
  intro h24
  refine R5 ?_
  refine J2 i (i + 1) ?_ ?_ (G7 ⟨rfl, rfl, rfl, rfl, trivial⟩)
  ·exact ⟨by omega, by rw [List.take_add_one, List.take_add_one, hinv.2, hx, hy]; congr 2; simpa using h24⟩
  omega
 intro h14
 have k14 := of_decide_eq_false h14; try simp only [A5] at k14
 have hyes : decide (a = b) = true := decide_eq_true qz48
 rw [hyes]
 refine R6 ?_
 exact F0 rfl (A4 rfl B1)
theorem Aw7 (a b : List B4) : C0 Tryz.prog 103 [AV.list 3 (a.map B4.cs), AV.list 3 (b.map B4.cs)] (AV.bool (decide (a = b))) := by
 refine B3 Tryz.func103 rfl Tryz.ntmps103 rfl ?_
 refine Z2 (t := 0) rfl fun hl => ?_
 try simp only [A5] at hl
 refine Z2 (t := 1) rfl fun hl2 => ?_
 try simp only [A5] at hl2
 refine R13 ?_
 refine A6 (A0 rfl) ?_ ?_
 ·intro h10
  have k10 := AN3 h10; try simp only [A5] at k10
  have hne : decide (a = b) = false := decide_eq_false fun e => by (subst e; omega)
  rw [hne]
  refine R5 ?_
  exact F0 rfl (A4 rfl B1)
 intro h10
 have k10 := p4 h10; try simp only [A5] at k10
 refine R9 ?_
 refine H7 [(0, _), (1, _), (12, _)] _ (fun (i : Nat) => i ≤ a.length ∧ a.take i = b.take i) (fun (i : Nat) => []) (fun (i : Nat) => [(13, AV.int i)]) (fun (i : Nat) => a.length - i) (0) ?_ (G7 ⟨rfl, rfl, rfl, rfl, trivial⟩) ?_
 ·exact ⟨Nat.zero_le _, rfl⟩
 intro i hinv
 refine R5 ?_
 refine A6 (A0 rfl) ?_ ?_
 ·intro h14
  have k14 := of_decide_eq_true h14; try simp only [A5] at k14
  have hlt : i < a.length := by omega
  obtain ⟨x, hx⟩ := E7 hlt
  obtain ⟨y, hy⟩ := E7 (show i < b.length by omega)
  refine R12 ?_
  refine A9 rfl rfl (F1 rfl I3 L1 (A0 rfl) (A0 rfl) hx qz1) ?_
  refine R3 ?_
  refine A9 rfl rfl (F1 rfl I3 L1 (A0 rfl) (A0 rfl) hy qz1) ?_
  refine R1 ?_
  refine A9 rfl rfl (w_aneq rfl Tryz.underlying100 F9 F9 (A0 rfl) (A0 rfl) (s3 F9 c4 rfl rfl (AT0 C3) (s3 F9 c4 rfl rfl (AT0 C3) (s3 F9 Tryz.isAgg4 rfl rfl (Ap4 O6) Az0)))) ?_
  refine R1 ?_
  refine A6 (A0 rfl) ?_ ?_
  ·intro h24
   have hne : decide (a = b) = false := decide_eq_false fun e => by (subst e; rw [hx] at hy; injection hy with hy; rw [AF4] at h24; simp [hy] at h24)
   rw [hne]
   refine R5 ?_
   exact F0 rfl (A4 rfl B1)
  intro h24
  refine R5 ?_
  refine J2 i (i + 1) ?_ ?_ (G7 ⟨rfl, rfl, rfl, rfl, trivial⟩)
  ·exact ⟨by omega, by rw [List.take_add_one, List.take_add_one, hinv.2, hx, hy]; congr 2; rw [AF4] at h24; simpa using h24⟩
  omega
 intro h14
 have k14 := of_decide_eq_false h14; try simp only [A5] at k14
 have hyes : decide (a = b) = true := decide_eq_true qz48
 rw [hyes]
 refine R6 ?_
 exact F0 rfl (A4 rfl B1)
theorem same_rec (a b : E8) : ((((((a.Kind == b.Kind && a.Txn == b.Txn) && a.Time == b.Time) && a.Lead == b.Lead) && a.Yes == b.Yes) && decide (a.Reads = b.Reads)) && decide (a.Writes = b.Writes)) = decide (a = b) := by
  cases a; cases b
  rw [Bool.eq_iff_iff]
  simp only [Bool.and_eq_true, beq_iff_eq, decide_eq_true_eq, E8.mk.injEq]
  constructor
  · rintro ⟨⟨⟨⟨⟨⟨h1, h2⟩, h3⟩, h4⟩, h5⟩, h6⟩, h7⟩; exact ⟨h1, h2, h3, h4, h6, h7, h5⟩
  · rintro ⟨h1, h2, h3, h4, h6, h7, h5⟩; exact ⟨⟨⟨⟨⟨⟨h1, h2⟩, h3⟩, h4⟩, h5⟩, h6⟩, h7⟩
theorem Am7 (a b : E8) : C0 Tryz.prog 62 [AV.agg a.cs, AV.agg b.cs] (AV.bool (decide (a = b))) := by
  refine B3 Tryz.func62 rfl Tryz.ntmps62 rfl ?_
  refine R3 ?_
  intro b2
  refine R1 ?_
  intro b3
  refine R35 ?_
  refine K1 rfl (fun hc => w_beql rfl O6 (B0 rfl hc) (B0 rfl hc)) ?_
  refine R6 ?_
  refine K1 rfl (fun hc => A8 rfl Tryz.call102 rfl (Aw6 a.Reads b.Reads) (A1 (B0 rfl hc) (A1 (B0 rfl hc) A3))) ?_
  refine R6 ?_
  refine K1 rfl (fun hc => A8 rfl Tryz.call103 rfl (Aw7 a.Writes b.Writes) (A1 (B0 rfl hc) (A1 (B0 rfl hc) A3))) ?_
  refine R4 ?_
  exact F0 rfl (A4 rfl (by exact congrArg AV.bool (same_rec a b)))
end Go.Proofs.YtkibefcceekmnaaGreat
namespace Go.M
open Go.AV
def AL6 (x : Option (List B8)) (n : Nat) : List B8 × Int × Bool := match x with
  | some x => (x, (n : Int), true)
  | none => ([], 0, false)
noncomputable def onD (d : G6) : List B8 × Int × Bool := AL6 (entsOf (framesB (d.Kept ++ d.Loose)).1) (framesB (d.Kept ++ d.Loose)).2
theorem As4 {d : G6} (h : goodDisk d = true) : onDiskR d = ((onD d).1, (onD d).2.2) := by
  unfold onDiskR onD entsR AL6
  rw [if_pos h]
  cases entsOf (framesB (d.Kept ++ d.Loose)).1 <;> rfl
theorem Aw8 {d : G6} (h : goodDisk d = false) : onDiskR d = ([], false) := by unfold onDiskR; rw [if_neg qz67]
theorem onD_none {d : G6} (h : entsOf (framesB (d.Kept ++ d.Loose)).1 = none) : onD d = ([], 0, false) := by unfold onD AL6; rw [h]
theorem onD_some {d : G6} {x : List B8} (h : entsOf (framesB (d.Kept ++ d.Loose)).1 = some x) : onD d = (x, ((framesB (d.Kept ++ d.Loose)).2 : Int), true) := by unfold onD AL6; rw [h]
theorem AB5 {d : G6} (h : goodDisk d = true) : d.Kept.length + d.Loose.length ≤ 50000 := by
  unfold goodDisk at h; have := of_decide_eq_true h; omega
theorem AL3 (s : Str) : (framesB s).1.length ≤ s.length := by
  have h := Av3 s
  have h2 : ∀ l : List Str, l.length ≤ ((l.map frameB).flatten).length := by
    intro l
    induction l with
    | nil => exact Nat.zero_le _
    | cons x l ih => rw [List.map_cons, List.flatten_cons, D5, E6, Q4]; omega
  exact Nat.le_trans (h2 _) h
end Go.M
namespace Go.Proofs.YtkibefcceekmnaaGreat
open Go Go.AV Go.M
attribute [local irreducible] OpW OpA OpS AWP C0 I0 D7 OpE RetOk G3 H5 Le Ev F6 J1 Int.tmod Int.tdiv IntKind.wrap
theorem Aw9 (d : G6) (hd : d.Kept.length + d.Loose.length ≤ 50000) : C0 Tryz.prog 27 [AV.agg d.cs] (AV.tup [AV.list 8 ((onD d).1.map B8.cs), AV.int (onD d).2.1, AV.bool (onD d).2.2]) := by
 have hal : (d.Kept ++ d.Loose).length ≤ 50000 := by rw [D5]; omega
 have hff := (q8 (d.Kept ++ d.Loose)).1
 have hfl := AL3 (d.Kept ++ d.Loose)
 refine B3 Tryz.func27 rfl Tryz.ntmps27 rfl ?_
 refine R3 ?_
 intro b1
 refine A2 rfl (E2 rfl (j3 (sz := 8))) ?_
 refine R9 ?_
 refine A2 rfl (J7 rfl (A0 rfl) (A0 rfl) qz5) ?_
 refine A2 rfl (A8 rfl Tryz.call58 rfl (Am4 (d.Kept ++ d.Loose) qz5) (A1 (A0 rfl) A3)) ?_
 refine R8 ?_
 refine K8 rfl rfl rfl rfl F5 G1 ?_
 intro v21
 refine R10 ?_
 refine AWP.le (H6 [0] rfl) ?_
 refine V8 [(6, _), (22, _), (23, _)] _ (fun (i : Nat) (v : Value) (x : List B8) => i ≤ (framesB (d.Kept ++ d.Loose)).1.length ∧ entsOf ((framesB (d.Kept ++ d.Loose)).1.take i) = some x ∧ x.length = i) (fun (i : Nat) (v : Value) (x : List B8) => [.arr v 29 8 (x.map B8.cs)]) (fun (i : Nat) (v : Value) (x : List B8) => [(7, AV.is v), (24, AV.int i)]) (fun (i : Nat) (v : Value) (x : List B8) => (framesB (d.Kept ++ d.Loose)).1.length - i) (0) (v21) ([]) ?_ (J5 B1 ⟨rfl, rfl, rfl, rfl, rfl, trivial⟩) ?_
 ·exact ⟨Nat.zero_le _, rfl, rfl⟩
 intro i v x hinv
 refine R5 ?_
 refine A6 (A0 rfl) ?_ ?_
 ·intro h25
  have k25 := of_decide_eq_true h25; try simp only [A5] at k25
  have hlt : i < (framesB (d.Kept ++ d.Loose)).1.length := (by simpa using h25)
  obtain ⟨f, hf⟩ := E7 hlt
  have hf7 : f.length ≤ 700 := hff f (C6 hf)
  have hxl := hinv.2.2
  refine R5 ?_
  refine A2 rfl (F1 rfl C5 G2 (A0 rfl) (A0 rfl) hf qz1) ?_
  refine R6 ?_
  refine A2 rfl (A8 rfl Tryz.call12 rfl (AI2 f qz5) (A1 (A0 rfl) A3)) ?_
  refine R4 ?_
  intro b10
  refine R9 ?_
  refine A6 (A0 rfl) ?_ ?_
  ·intro h34
   rw [onD_none (Ac3 hf Ae5)]
   refine R2 ?_
   refine A2 rfl (E2 rfl (j3 (sz := 8))) ?_
   refine R4 ?_
   exact L3 rfl B5 (A7 (A4 rfl B1) (A7 (A4 rfl B1) (A7 (A4 rfl B1) D0)))
  intro h34
  have hyes : (K0 f).2 = true := Ae5
  refine R5 ?_
  refine J0 (by' := 96) 1 rfl rfl rfl rfl F5 Tryz.type29 rfl rfl rfl rfl rfl rfl (A0 rfl) (A0 rfl) rfl qz43 ?_
  intro v38_1
  refine R6 ?_
  refine S9 i v x (i + 1) (v38_1) (x ++ [(K0 f).1]) ?_ ?_ (Le.trans (H6 [0, 0] rfl) (T5 1 AG1 ⟨rfl, rfl, rfl, rfl, rfl, trivial⟩))
  ·exact ⟨by omega, AW0 hf hinv.2.1 hyes, by rw [D5, hinv.2.2]; rfl⟩
  omega
 intro h25
 have k25 := of_decide_eq_false h25; try simp only [A5] at k25
 have hie : i = (framesB (d.Kept ++ d.Loose)).1.length := (by have h9 : (framesB (d.Kept ++ d.Loose)).1.length ≤ i := (by simpa using h25); omega)
 have hents := hinv.2.1
 rw [hie, List.take_length] at hents
 rw [onD_some hents]
 refine R10 ?_
 refine AJ5 0 2 rfl rfl ?_
 exact L3 rfl B5 (A7 (A4 rfl B1) (A7 (A4 rfl B1) (A7 (A4 rfl B1) D0)))
theorem AR3 (d : G6) (hd : d.size ≤ 1048576) : C0 Tryz.prog 9 [AV.agg d.cs] (AV.tup [AV.list 8 ((onDiskR d).1.map B8.cs), AV.bool (onDiskR d).2]) := by
 refine B3 Tryz.func9 rfl Tryz.ntmps9 rfl ?_
 refine R3 ?_
 intro b1
 refine A2 rfl (E2 rfl (j3 (sz := 8))) ?_
 refine R6 ?_
 refine A2 rfl (A8 rfl Tryz.call26 rfl (AA6 d hd) (A1 (A0 rfl) A3)) ?_
 refine R2 ?_
 refine A6 (A0 rfl) ?_ ?_
 ·intro h9
  rw [Aw8 (by simpa using h9)]
  refine R2 ?_
  refine A2 rfl (E2 rfl (j3 (sz := 8))) ?_
  refine R3 ?_
  exact L3 rfl B5 (A7 (A4 rfl B1) (A7 (A4 rfl B1) D0))
 intro h9
 have hg : goodDisk d = true := (by simpa using h9)
 rw [As4 hg]
 refine R4 ?_
 refine A2 rfl (A8 rfl Tryz.call27 rfl (Aw9 d (AB5 hg)) (A1 (A0 rfl) A3)) ?_
 refine R16 ?_
 exact L3 rfl B5 (A7 (A4 rfl B1) (A7 (A4 rfl B1) D0))
theorem Ax0 (l : List B8) : C0 Tryz.prog 30 [AV.list 8 (l.map B8.cs), AV.list 8 (l.map B8.cs)] (AV.bool true) := by
 refine B3 Tryz.func30 rfl Tryz.ntmps30 rfl ?_
 refine Z2 (t := 0) rfl fun hl => ?_
 try simp only [A5] at hl
 refine R13 ?_
 refine A6 (A0 rfl) ?_ ?_
 ·intro h10
  have k10 := of_decide_eq_true h10; try simp only [A5] at k10
  exfalso; simp at h10
 intro h10
 have k10 := of_decide_eq_false h10; try simp only [A5] at k10
 refine R7 ?_
 refine H7 [(0, _), (1, _)] _ (fun (i : Nat) => i ≤ l.length) (fun (i : Nat) => []) (fun (i : Nat) => [(5, AV.int i)]) (fun (i : Nat) => l.length - i) (0) ?_ (G7 ⟨rfl, rfl, rfl, trivial⟩) ?_
 ·exact Nat.zero_le _
 intro i hinv
 refine R8 ?_
 refine A6 (A0 rfl) ?_ ?_
 ·intro h14
  have k14 := of_decide_eq_true h14; try simp only [A5] at k14
  have hlt : i < l.length := (by simpa using h14)
  obtain ⟨x, hx⟩ := E7 hlt
  refine R7 ?_
  refine A9 rfl rfl (F1 rfl F5 G1 (A0 rfl) (A0 rfl) hx qz1) ?_
  refine R4 ?_
  refine A9 rfl rfl (F1 rfl F5 G1 (A0 rfl) (A0 rfl) hx qz1) ?_
  refine R6 ?_
  refine M3 rfl (O7 rfl rfl rfl) (fun hc => F1 rfl F5 G1 (B0 rfl hc) (B0 rfl hc) hx qz4) ?_
  refine R4 ?_
  refine M3 rfl (O7 rfl rfl rfl) (fun hc => F1 rfl F5 G1 (B0 rfl hc) (B0 rfl hc) hx qz4) ?_
  refine R2 ?_
  refine M3 rfl (O7 rfl rfl rfl) (fun hc => A8 rfl Tryz.call62 rfl (Am7 x.Rec x.Rec) (A1 (B0 rfl hc) (A1 (B0 rfl hc) A3))) ?_
  refine R3 ?_
  refine A6 (A0 rfl) ?_ ?_
  ·intro h41
   exfalso; simp at h41
  intro h41
  refine R6 ?_
  refine J2 i (i + 1) ?_ ?_ (G7 ⟨rfl, rfl, rfl, trivial⟩)
  ·exact qz5
  omega
 intro h14
 have k14 := of_decide_eq_false h14; try simp only [A5] at k14
 refine R6 ?_
 exact F0 rfl (A4 rfl B1)
theorem AR4 (l : List B8) : C0 Tryz.prog 11 [AV.list 8 (l.map B8.cs), AV.list 8 (l.map B8.cs)] (AV.bool true) := by
  refine B3 Tryz.func11 rfl Tryz.ntmps11 rfl ?_
  refine R14 ?_
  refine K1 rfl (fun hc => A8 rfl Tryz.call30 rfl (Ax0 l) (A1 (B0 rfl hc) (A1 (B0 rfl hc) A3))) ?_
  refine R4 ?_
  exact F0 rfl (A4 rfl (by exact congrArg AV.bool N9))
theorem i6 (d : G6) (hd : d.size ≤ 1048576) : C0 Tryz.prog 10 [AV.agg d.cs] (AV.tup [AV.list 8 ((onDiskR d).1.map B8.cs), AV.bool (onDiskR d).2]) := by
 have hfl : (K9 d).1.length ≤ 50000 ∧ ∀ f ∈ (K9 d).1, f.length ≤ 700 := by
  unfold K9
  split
  ·exact ⟨Nat.zero_le _, fun f hf => by cases hf⟩
  rename_i hg
  have := AB5 (d := d) (by simpa using hg)
  have h1 := AL3 (d.Kept ++ d.Loose)
  rw [D5] at h1
  exact ⟨by dsimp only; omega, (q8 (d.Kept ++ d.Loose)).1⟩
 have hend : ∀ x, entsOf (K9 d).1 = some x → onDiskR d = (x, (K9 d).2.2) := by
  intro x hx
  unfold K9 at hx ⊢
  unfold onDiskR entsR
  cases hg : goodDisk d with
  | true => rw [hg] at hx; simp only [Bool.not_true, Bool.false_eq_true, if_false] at hx ⊢; rw [if_pos trivial, hx]
  | false => rw [hg] at hx; simp only [Bool.not_false, if_true] at hx ⊢; unfold entsOf at hx; injection hx with hx; rw [← hx]; rfl
 have hbad : entsOf (K9 d).1 = none → onDiskR d = ([], false) := by
  intro hx
  unfold K9 at hx
  unfold onDiskR entsR
  cases hg : goodDisk d with
  | true => rw [hg] at hx; simp only [Bool.not_true, Bool.false_eq_true, if_false] at hx; rw [if_pos rfl, hx]
  | false => rfl
 refine B3 Tryz.func10 rfl Tryz.ntmps10 rfl ?_
 refine R3 ?_
 intro b1
 refine A2 rfl (E2 rfl (j3 (sz := 8))) ?_
 refine R4 ?_
 refine K8 rfl rfl rfl rfl F5 G1 ?_
 intro v11
 refine R5 ?_
 refine A2 rfl (A8 rfl Tryz.call28 rfl (Ag6 d hd) (A1 (A0 rfl) A3)) ?_
 refine R14 ?_
 refine AWP.le (H6 [0] rfl) ?_
 refine V8 [(5, _), (7, _)] _ (fun (i : Nat) (v : Value) (x : List B8) => i ≤ (K9 d).1.length ∧ entsOf ((K9 d).1.take i) = some x ∧ x.length = i) (fun (i : Nat) (v : Value) (x : List B8) => [.arr v 29 8 (x.map B8.cs)]) (fun (i : Nat) (v : Value) (x : List B8) => [(4, AV.is v), (8, AV.int i)]) (fun (i : Nat) (v : Value) (x : List B8) => (K9 d).1.length - i) (0) (v11) ([]) ?_ (J5 B1 ⟨rfl, rfl, rfl, rfl, trivial⟩) ?_
 ·exact ⟨Nat.zero_le _, rfl, rfl⟩
 intro i v x hinv
 refine R8 ?_
 refine A6 (A0 rfl) ?_ ?_
 ·intro h21
  have k21 := of_decide_eq_true h21; try simp only [A5] at k21
  have hlt : i < (K9 d).1.length := (by simpa using h21)
  obtain ⟨f, hf⟩ := E7 hlt
  have hf7 : f.length ≤ 700 := hfl.2 f (C6 hf)
  have hxl := hinv.2.2
  refine R7 ?_
  refine A2 rfl (F1 rfl C5 G2 (A0 rfl) (A0 rfl) hf qz1) ?_
  refine R1 ?_
  refine A2 rfl (A8 rfl Tryz.call29 rfl (Ad4 f qz5) (A1 (A0 rfl) A3)) ?_
  refine R4 ?_
  intro b9
  refine R9 ?_
  refine A6 (A0 rfl) ?_ ?_
  ·intro h33
   rw [hbad (Ac3 hf (by simpa using h33))]
   refine R2 ?_
   refine K8 rfl rfl rfl rfl F5 G1 ?_
   intro v34
   refine R4 ?_
   refine AJ5 0 2 rfl rfl ?_
   exact L3 rfl B5 (A7 (A4 rfl B1) (A7 (A4 rfl B1) D0))
  intro h33
  have hyes : (K0 f).2 = true := (by simpa using h33)
  refine R5 ?_
  refine J0 (by' := 96) 1 rfl rfl rfl rfl F5 Tryz.type29 rfl rfl rfl rfl rfl rfl (A0 rfl) (A0 rfl) rfl qz43 ?_
  intro v38_1
  refine R7 ?_
  refine S9 i v x (i + 1) (v38_1) (x ++ [(K0 f).1]) ?_ ?_ (Le.trans (H6 [0, 0] rfl) (T5 1 AG1 ⟨rfl, rfl, rfl, rfl, trivial⟩))
  ·exact ⟨by omega, AW0 hf hinv.2.1 hyes, by rw [D5, hinv.2.2]; rfl⟩
  omega
 intro h21
 have k21 := of_decide_eq_false h21; try simp only [A5] at k21
 have hie : i = (K9 d).1.length := (by have h9 : (K9 d).1.length ≤ i := (by simpa using h21); omega)
 have hents := hinv.2.1
 rw [hie, List.take_length] at hents
 rw [hend x hents]
 refine R9 ?_
 refine AJ5 0 2 rfl rfl ?_
 exact L3 rfl B5 (A7 (A4 rfl B1) (A7 (A4 rfl B1) D0))
end Go.Proofs.YtkibefcceekmnaaGreat
namespace Go.Proofs.YtkibefcceekmnaaGreat
open Go Go.AV Go.M
attribute [local irreducible] OpW OpA OpS AWP C0 I0 RetOk H5 Le Ev F6
end Go.Proofs.YtkibefcceekmnaaGreat
namespace Go.Proofs.YtkibefcceekmnaaGreat
open Go Go.AV Go.M
attribute [local irreducible] OpW OpA OpS AWP C0 I0 D7 OpE RetOk G3 H5 Le Ev F6 J1 Int.tmod Int.tdiv IntKind.wrap
theorem str_at {l : List Str} {i j : Nat} {s : Str} (h : l[i]? = some s) (hj : j = i * 1) : ((l.map fun s => [AV.str s]).flatten)[j]? = some (AV.str s) := by
  rw [hj, Nat.mul_one]
  have e : (l.map fun s => [AV.str s]).flatten = l.map AV.str := by
    clear h
    induction l with
    | nil => rfl
    | cons x l ih => simp [ih]
  rw [e, List.getElem?_map, h]; rfl
end Go.Proofs.YtkibefcceekmnaaGreat
namespace Go.M
open Go.AV
end Go.M
namespace Go.Proofs.YtkibefcceekmnaaGreat
open Go Go.AV Go.M
attribute [local irreducible] OpW OpA OpS AWP C0 I0 D7 OpE RetOk G3 H5 Le Ev F6 J1 Int.tmod Int.tdiv IntKind.wrap
end Go.Proofs.YtkibefcceekmnaaGreat
namespace Go.AV
section
variable {T X : Type} {cs : T → List AV} {ocs : T → X → List AV} {ow : T → X → List Own}
end
end Go.AV
namespace Go.Proofs.YtkibefcceekmnaaGreat
open Go Go.AV Go.M
attribute [local irreducible] OpW OpA OpS AWP C0 I0 D7 OpE RetOk G3 H5 Le Ev F6 J1
end Go.Proofs.YtkibefcceekmnaaGreat
namespace Go.M
open Go.AV
def S2.ocs (h : S2) (x : Value × Value) : List AV := [AV.int h.Txn, AV.int h.Time, AV.int h.Lead, AV.is x.1, AV.is x.2]
def Q5.ocs (s : Q5) (x : Value × Value) : List AV := [AV.int s.Floor, AV.list 2 (s.Cells.map O3.cs), AV.is x.1, AV.is x.2]
end Go.M
namespace Go.Proofs.YtkibefcceekmnaaGreat
open Go Go.AV Go.M
def S2.ow (h : S2) (x : Value × Value) : List Own := [.arr x.1 9 1 (h.Reads.map fun k => [AV.str k]), .arr x.2 100 3 (h.Writes.map B4.cs)]
theorem S2.lc (h : S2) (x : Value × Value) : U3 (S2.ow h x) (S2.ocs h x) h.cs :=
  B2 C8 (B2 C8 (B2 C8 (B2 (G5 (C6 (i := 0) rfl) E3) (B2 (G5 (C6 (i := 1) rfl) E3) J8))))
attribute [local irreducible] OpW OpA OpS AWP C0 I0 D7 OpE RetOk G3 H5 Le Ev F6 J1 Int.tmod Int.tdiv IntKind.wrap
end Go.Proofs.YtkibefcceekmnaaGreat
namespace Go.M
open Go.AV
theorem X0 {r : E8} (h : goodRec r = true) : r.size ≤ 400 := by
  have g := Z0 h
  have h1 : sizeL (fun x : Str => x.length) r.Reads ≤ r.Reads.length * 13 := AQ1 fun x hx => V5 (g.reads.2 x hx)
  have h2 : sizeL B4.size r.Writes ≤ r.Writes.length * 37 := AQ1 (f := B4.size) fun x hx => by
    have := g.writes.2 x hx
    have k1 := V5 this.1
    have k2 := q6 this.2.1
    show x.Key.length + x.Val.length ≤ 36
    omega
  have h3 : r.size = sizeL (fun x : Str => x.length) r.Reads + sizeL B4.size r.Writes := rfl
  have := g.reads.1
  have := g.writes.1
  omega
end Go.M
namespace Go.Proofs.YtkibefcceekmnaaGreat
open Go Go.AV Go.M
attribute [local irreducible] OpW OpA OpS AWP C0 I0 D7 OpE RetOk G3 H5 Le Ev F6 J1 Int.tmod Int.tdiv IntKind.wrap
end Go.Proofs.YtkibefcceekmnaaGreat
namespace Go.M
open Go.AV
end Go.M
namespace Go.Proofs.YtkibefcceekmnaaGreat
open Go Go.AV Go.M
attribute [local irreducible] OpW OpA OpS AWP C0 I0 D7 OpE RetOk G3 H5 Le Ev F6 J1 Int.tmod Int.tdiv IntKind.wrap
end Go.Proofs.YtkibefcceekmnaaGreat
