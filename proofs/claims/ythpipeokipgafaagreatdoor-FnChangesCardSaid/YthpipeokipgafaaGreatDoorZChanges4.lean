/- Texts of the claim, part 4. -/
import Derived.Test.YthpipeokipgafaaGreatDoorRows
import Derived.Sort.OwnSortedInts
import Derived.Sort.EncStr
import Derived.Shelf.GgSortFunc.RowK
import Derived.Shelf.Sort.Plain
import Derived.Shelf.Slices.In.SortNone
import Derived.Test.YthpipeokipgafaaGreatDoorProg
import Derived.Test.YthpipeokipgafaaGreatDoorZChanges3
set_option linter.defProp false
set_option linter.unusedVariables false
set_option linter.unusedSimpArgs false
set_option maxRecDepth 100000
set_option maxHeartbeats 4000000
namespace Go.PQ
open Go.Proofs
open Go Go.AV Go.M
attribute [local irreducible] OpW OpA OpS AWP J6 L3 K2 K6 Le Ev F7
theorem AK4 {c : B1} {n : Nat} (h : c.size ≤ n) : c.Key.length ≤ n ∧ c.Vers.length ≤ n ∧ C7 O3.size c.Vers ≤ n := by
  unfold B1.size at h;have : c.Vers.length ≤ n := L8 L9 (show C7 O3.size c.Vers ≤ n by omega);omega
namespace tw6n1
def Bz1 := @Tryz.func16
def Bz2 := @Tryz.ntmps16
def Bz3 := @Tryz.call39
def Bz4 := @Y8
end tw6n1
open tw6n1 in
theorem AZ9 (t : Int) : E1 16 [AV.int t] (AV.bool (isTrue t)) := BN5
namespace tw6n2
def Bz1 := @Tryz.func200
def Bz2 := @Tryz.ntmps200
def Bz3 := @Tryz.call24
def Bz4 := @P3
end tw6n2
open tw6n2 in
theorem Ci2 (t : Int) : E1 200 [AV.int t] (AV.bool (within t 1 100000)) := BN5
namespace tw6n3
def Bz1 := @Tryz.func25
def Bz2 := @Tryz.ntmps25
def Bz3 := @Tryz.call24
def Bz4 := @P3
end tw6n3
open tw6n3 in
theorem AT1 (t : Int) : E1 25 [AV.int t] (AV.bool (isTrue t)) := BN5
theorem Ci3 (c : B1) (hs : c.size ≤ 4194304) : E1 316 [AV.agg c.cs] (AV.bool (Ae7 c)) := by
 have hcl := AK4 hs;refine B3 Tryz.func316 rfl Tryz.ntmps316 rfl ?_;refine R3 ?_;intro b1;refine R11 ?_;refine F2 [(1, _), (6, _), (7, _)] _ (fun (i : Nat) => i ≤ c.Vers.length ∧ (c.Vers.all AN2 && adj n9 c.Vers) = ((c.Vers.drop i).all AN2 && adj n9 (c.Vers.drop (i - 1)))) (fun i => []) (fun i => [(8, AV.int i)]) (fun i => c.Vers.length - i) (0) ?_ (G3 A8) ?_
 ·exact ⟨E2 _, rfl⟩
 intro i hinv;refine R5 ?_;refine A3 ?_ ?_
 ·intro h9;have k9 := C5 h9;have hlt : i < c.Vers.length := by omega
  obtain ⟨x, hx⟩ := B4 hlt;obtain ⟨y, hy⟩ := B4 (show i - 1 < c.Vers.length by omega);have hsx : x.size ≤ 4194304 := L8 (U6 hx) hcl.2.2;unfold O3.size at hsx;refine R6 ?_;refine A1 rfl (D3 rfl V5 n8 (A0 rfl) (A0 rfl) hx qz2) ?_;refine R2 ?_;intro b4;refine R7 ?_;refine C0 rfl rfl (A5 rfl Tryz.call167 rfl (AZ8 _) J3) ?_;refine R6 ?_;refine Q4 rfl (Y4 rfl rfl rfl) (fun hc => A5 rfl Tryz.call50 rfl (Ax4 _ _ qz8) (A2 (A9 rfl hc) (A2 (A9 rfl hc) B0))) ?_;refine R12 ?_;refine Q4 rfl (X4 rfl rfl rfl) (fun hc => D3 rfl V5 n8 (A9 rfl hc) (A9 rfl hc) hy qz6) ?_;refine R6 ?_;refine A3 ?_ ?_
  ·intro h40;have hfin : Ae7 c = false := by unfold Ae7; rw [hinv.2]; cases hg : AN2 x with | false => (rw [Ak4 hx hg]; simp) | true => (have hb : 0 < i ∧ n9 y x = false := (by unfold AN2 at hg; unfold n9; simp_all; try grind); rw [Ad0 hx hy hb.1 hb.2]; simp)
   refine R5 ?_;exact D6 rfl (A6 rfl qz157)
  intro h40;have hg : AN2 x = true ∧ (0 < i → n9 y x = true) := by unfold AN2 n9; simp_all
  refine R5 ?_;refine G4 i (i + 1) ?_ ?_ (S5 1 A8)
  ·exact ⟨by omega, by rw [hinv.2, Ak3 hx hg.1, Ac9 hx hy hg.2]⟩
  omega
 intro h9;have k9 := B9 h9;have hge : c.Vers.length ≤ i := by omega
 refine R6 ?_;refine A1 rfl (A5 rfl Tryz.call39 rfl (Y8 _ _ _) AJ2) ?_;refine R3 ?_;exact D6 rfl (A6 rfl qz157)
theorem Ci4 (c : B1) (hs : c.size ≤ 4194304) : E1 299 [AV.agg c.cs] (AV.bool (Ae8 c)) := by
 have hcl := AK4 hs;refine B3 Tryz.func299 rfl Tryz.ntmps299 rfl ?_;refine R3 ?_;intro b1;refine R11 ?_;refine F2 [(1, _), (6, _), (7, _)] _ (fun (i : Nat) => i ≤ c.Vers.length ∧ (c.Vers.all (AY6 c.Key) && adj n9 c.Vers) = ((c.Vers.drop i).all (AY6 c.Key) && adj n9 (c.Vers.drop (i - 1)))) (fun i => []) (fun i => [(8, AV.int i)]) (fun i => c.Vers.length - i) (0) ?_ (G3 A8) ?_
 ·exact ⟨E2 _, rfl⟩
 intro i hinv;refine R5 ?_;refine A3 ?_ ?_
 ·intro h9;have k9 := C5 h9;have hlt : i < c.Vers.length := by omega
  obtain ⟨x, hx⟩ := B4 hlt;obtain ⟨y, hy⟩ := B4 (show i - 1 < c.Vers.length by omega);have hsx : x.size ≤ 4194304 := L8 (U6 hx) hcl.2.2;unfold O3.size at hsx;refine R6 ?_;refine A1 rfl (D3 rfl V5 n8 (A0 rfl) (A0 rfl) hx qz2) ?_;refine R2 ?_;intro b4;refine R7 ?_;refine C0 rfl rfl (A5 rfl Tryz.call200 rfl (Ci2 _) J3) ?_;refine R8 ?_;refine Q4 rfl (Y4 rfl rfl rfl) (fun hc => A5 rfl Tryz.call58 rfl (Ba2 _ _ _ qz8 qz8) (A2 (A9 rfl hc) (A2 (A9 rfl hc) (A2 (A9 rfl hc) B0)))) ?_;refine R10 ?_;refine Q4 rfl (X4 rfl rfl rfl) (fun hc => D3 rfl V5 n8 (A9 rfl hc) (A9 rfl hc) hy qz6) ?_;refine R8 ?_;refine A3 ?_ ?_
  ·intro h42;have hfin : Ae8 c = false := by unfold Ae8; rw [hinv.2]; cases hg : AY6 c.Key x with | false => (rw [Ak4 hx hg]; simp) | true => (have hb : 0 < i ∧ n9 y x = false := (by unfold AY6 at hg; unfold n9; simp_all; try grind); rw [Ad0 hx hy hb.1 hb.2]; simp)
   refine R5 ?_;exact D6 rfl (A6 rfl qz156)
  intro h42;have hg : AY6 c.Key x = true ∧ (0 < i → n9 y x = true) := by unfold AY6 n9; simp_all
  refine R5 ?_;refine G4 i (i + 1) ?_ ?_ (S5 1 A8)
  ·exact ⟨by omega, by rw [hinv.2, Ak3 hx hg.1, Ac9 hx hy hg.2]⟩
  omega
 intro h9;have k9 := B9 h9;have hge : c.Vers.length ≤ i := by omega
 refine R5 ?_;refine A1 rfl (A5 rfl Tryz.call94 rfl (AR2 _ qz8) (A2 (A0 rfl) B0)) ?_;refine R4 ?_;refine L6 rfl (fun hc => A5 rfl Tryz.call24 rfl (P3 _ _ _) (A2 (A9 rfl hc) AO2)) ?_;refine R4 ?_;exact D6 rfl (A6 rfl qz156)
theorem CC9 (l : List B1) (hs : C7 B1.size l ≤ 4194304) : E1 290 [AV.list 2 (l.map B1.cs)] (AV.bool (m5 l)) := by
 have hl : l.length ≤ 4194304 := L8 L9 hs;have hks : ∀ k ∈ n2 l, k.length ≤ 4611686018427387904 := fun k hk => by
  obtain ⟨w, hw, rfl⟩ := Y0.1 hk;have := AK4 (L8 (Al3 hw) hs);omega
 refine B3 Tryz.func290 rfl Tryz.ntmps290 rfl ?_;refine R6 ?_;refine P6 rfl rfl rfl rfl E3 I2 ?_;intro v6;refine R10 ?_;refine J0 [(0, _), (7, _), (8, _)] _ (fun (i : Nat) (v : Value) => i ≤ l.length ∧ l.all Ae7 = (l.drop i).all Ae7) (fun i v => [.arr v 9 1 ((l.take i).map fun w => [AV.str w.Key])]) (fun i v => [(3, AV.is v), (9, AV.int i)]) (fun i v => l.length - i) (0) (v6) ?_ (K1 C1 A8) ?_
 ·exact ⟨E2 _, rfl⟩
 intro i v hinv;refine R5 ?_;refine A3 ?_ ?_
 ·intro h10;have k10 := C5 h10;have hlt : i < l.length := by omega
  obtain ⟨x, hx⟩ := B4 hlt;have hsx : x.size ≤ 4194304 := L8 (U6 hx) hs;refine R5 ?_;refine A1 rfl (D3 rfl D2 I1 (A0 rfl) (A0 rfl) hx qz2) ?_;refine R2 ?_;intro b5;refine R6 ?_;refine A1 rfl (A5 rfl Tryz.call316 rfl (Ci3 _ W1) (A2 (A0 rfl) B0)) ?_;refine R2 ?_;refine A3 ?_ ?_
  ·intro h15;refine R5 ?_;exact D6 rfl (A6 rfl qz112)
  intro h15;refine R6 ?_;refine H4 (by' := 16) 1 rfl rfl rfl rfl E3 Tryz.type9 rfl rfl rfl rfl rfl rfl (A0 rfl) (A0 rfl) rfl qz2 ?_;intro v20_1;refine R6 ?_;refine G8 i v (i + 1) (v20_1) ?_ ?_ (E5 1 (by exact C3 (fun z => [Own.arr v20_1 9 1 z]) (AK2 (f := fun w : B1 => [AV.str w.Key]) hx)) A8)
  ·exact ⟨by omega, by rw [hinv.2, Ak3 hx BF4]⟩
  omega
 intro h10;have k10 := B9 h10;have hge : l.length ≤ i := by omega
 rw [P8 hge, show (l.map fun w => [AV.str w.Key]) = (n2 l).map (fun k => [AV.str k]) from by unfold n2; rw [List.map_map]; rfl];refine R8 ?_;refine L6 rfl (fun hc => l8 rfl Tryz.call46 rfl (AV0 (n2 l) hks) (U0 _) (P1 (Al1 0 (A9 rfl hc) rfl) m8)) ?_;refine R4 ?_;exact D6 rfl (A6 rfl qz112)
theorem Bj2 (l : List B1) (hs : C7 B1.size l ≤ 4194304) : E1 263 [AV.list 2 (l.map B1.cs)] (AV.bool (Ap1 l)) := by
 refine B3 Tryz.func263 rfl Tryz.ntmps263 rfl ?_;refine l7 (t := 0) rfl fun hl => ?_;try simp only [A7] at hl
 refine R12 ?_;refine F2 [(0, _), (5, _), (6, _)] _ (fun (i : Nat) => i ≤ l.length ∧ (l.all Ae8 && adj j6 l) = ((l.drop i).all Ae8 && adj j6 (l.drop (i - 1)))) (fun i => []) (fun i => [(7, AV.int i)]) (fun i => l.length - i) (0) ?_ (G3 A8) ?_
 ·exact ⟨E2 _, rfl⟩
 intro i hinv;refine R5 ?_;refine A3 ?_ ?_
 ·intro h8;have k8 := C5 h8;have hlt : i < l.length := by omega
  obtain ⟨x, hx⟩ := B4 hlt;obtain ⟨y, hy⟩ := B4 (show i - 1 < l.length by omega);have hsx : x.size ≤ 4194304 := L8 (U6 hx) hs;refine R6 ?_;refine A1 rfl (D3 rfl D2 I1 (A0 rfl) (A0 rfl) hx qz2) ?_;refine R2 ?_;intro b4;refine R6 ?_;refine C0 rfl rfl (A5 rfl Tryz.call299 rfl (Ci4 _ W1) (A2 (A0 rfl) B0)) ?_;refine R8 ?_;refine Q4 rfl (X4 rfl rfl rfl) (fun hc => D3 rfl D2 I1 (A9 rfl hc) (A9 rfl hc) hy qz6) ?_;refine R4 ?_;refine Q4 rfl (X4 rfl rfl rfl) (fun hc => BX2 rfl (A9 rfl hc) (A9 rfl hc)) ?_;refine R3 ?_;refine A3 ?_ ?_
  ·intro h29;have hfin : Ap1 l = false := by unfold Ap1; rw [hinv.2]; cases hg : Ae8 x with | false => (rw [Ak4 hx hg]; simp) | true => (have hb : 0 < i ∧ j6 y x = false := (by unfold j6; simp_all; try grind); rw [Ad0 hx hy hb.1 hb.2]; simp)
   refine R5 ?_;exact D6 rfl (A6 rfl qz149)
  intro h29;have hg : Ae8 x = true ∧ (0 < i → j6 y x = true) := by unfold j6; simp_all
  refine R5 ?_;refine G4 i (i + 1) ?_ ?_ (S5 1 A8)
  ·exact ⟨by omega, by rw [hinv.2, Ak3 hx hg.1, Ac9 hx hy hg.2]⟩
  omega
 intro h8;have k8 := B9 h8;have hge : l.length ≤ i := by omega
 refine R9 ?_;exact D6 rfl (A6 rfl qz149)
theorem CD0 (c : B1) (k : Str) : E1 313 [AV.agg c.cs, AV.str k] (AV.int (Bp6 k c)) := by
  refine B3 Tryz.func313 rfl Tryz.ntmps313 rfl ?_;refine R3 ?_;intro b2;refine R7 ?_;refine A1 rfl (A5 rfl Tryz.call44 rfl (Bj1 _ _) F0) ?_;refine R3 ?_;exact D6 rfl (A6 rfl qz9)
theorem Ax6 (l : List B1) (k : Str) (hs : l.length ≤ 4611686018427387903) : E1 288 [AV.list 2 (l.map B1.cs), AV.str k] (AV.tup [AV.int (AC9 l k), AV.bool (Ap2 l k)]) := by
  refine B3 Tryz.func288 rfl Tryz.ntmps288 rfl ?_;refine R9 ?_;refine A1 rfl (A5 rfl Tryz.call312 rfl (BN0 _ _ _ Ab8 _ qz8) (A2 (A0 rfl) (A2 (A0 rfl) (A2 (Bf3 Tryz.call313 (fun c k (_ : True) => CD0 c k)) B0)))) ?_;refine R6 ?_;exact f7 rfl F1 (I3 (A6 rfl qz9) (I3 (A6 rfl qz9) AB5))
theorem CJ6 {c : B1} (h : 1 ≤ c.Vers.length) : ∃ v, c.Vers[c.Vers.length - 1]? = some v ∧ CT2 c = v.Time := by
  obtain ⟨v, hv⟩ := B4 (show c.Vers.length - 1 < c.Vers.length by omega);refine ⟨v, hv, ?_⟩;unfold CT2; rw [List.getLast?_eq_getElem?, hv]
theorem CN9 (l : List B1) (k : Str) (ho : AH8 l) (hs : C7 B1.size l ≤ 4194304) : E1 287 [AV.list 2 (l.map B1.cs), AV.str k] (AV.int (N8 l k)) := by
 have hl : l.length ≤ 4194304 := L8 L9 hs;refine B3 Tryz.func287 rfl Tryz.ntmps287 rfl ?_;refine R8 ?_;refine A1 rfl (A5 rfl Tryz.call288 rfl (Ax6 _ _ W1) (A2 (A0 rfl) (A2 (A0 rfl) B0))) ?_;refine R12 ?_;refine A3 ?_ ?_
 ·intro h14;have hn : Ap2 l k = false := by simpa using h14
  have he : N8 l k = 0 := by unfold N8; rw [Bm7 ho.1, hn]; rfl
  rw [he];refine R5 ?_;exact D6 rfl (A6 rfl qz9)
 intro h14;have hn : Ap2 l k = true := by simpa using h14
 obtain ⟨c, hc, hck⟩ := Ar7.1 hn;obtain ⟨v, hv, hlv⟩ := CJ6 (ho.2 c (C2 hc));have hcl := AK4 (L8 (U6 hc) hs);have hc1 := ho.2 c (C2 hc);have he : N8 l k = v.Time := by unfold N8; rw [Bm7 ho.1, hn, D0 rfl, hc]; exact hlv
 rw [he];refine R5 ?_;refine C0 rfl rfl (D3 rfl D2 I1 (A0 rfl) (A0 rfl) hc qz2) ?_;refine R4 ?_;refine C0 rfl rfl (D3 rfl D2 I1 (A0 rfl) (A0 rfl) hc qz2) ?_;refine R4 ?_;refine C0 rfl rfl (D3 rfl V5 n8 (A0 rfl) (A0 rfl) hv qz2) ?_;refine R5 ?_;exact D6 rfl (A6 rfl qz9)
theorem Ba3 (l : List B1) (k : Str) : E1 282 [AV.list 2 (l.map B1.cs), AV.str k] (AV.int (atC l k)) := by
 refine B3 Tryz.func282 rfl Tryz.ntmps282 rfl ?_;refine l7 (t := 0) rfl fun hl => ?_;try simp only [A7] at hl
 refine R12 ?_;refine F2 [(1, _), (7, _), (8, _)] _ (fun (i : Nat) => i ≤ l.length ∧ ∀ j x, j < i → l[j]? = some x → x.Key ≠ k) (fun i => []) (fun i => [(9, AV.int i)]) (fun i => l.length - i) (0) ?_ (G3 A8) ?_
 ·exact ⟨E2 _, fun j x h => by omega⟩
 intro i hinv;refine R5 ?_;refine A3 ?_ ?_
 ·intro h10;have k10 := C5 h10;have hlt : i < l.length := by omega
  obtain ⟨x, hx⟩ := B4 hlt;refine R6 ?_;refine A1 rfl (D3 rfl D2 I1 (A0 rfl) (A0 rfl) hx qz2) ?_;refine R2 ?_;intro b6;refine R10 ?_;refine A3 ?_ ?_
  ·intro h17;refine R6 ?_;exact D6 rfl (A6 rfl qz115)
  intro h17;refine R5 ?_;refine G4 i (i + 1) ?_ ?_ (S5 1 A8)
  ·exact ⟨by omega, fun j y hj hy => if hji : j < i then hinv.2 j y hji hy else (by have e : j = i := qz8; subst e; rw [hx] at hy; injection hy with hy; subst hy; simpa using h17)⟩
  omega
 intro h10;have k10 := B9 h10;have hge : l.length ≤ i := by omega
 refine R6 ?_;exact D6 rfl (A6 rfl qz115)
theorem BK9 (l : List B1) (k : Str) (ho : AH8 l) (hs : C7 B1.size l ≤ 4194304) : E1 262 [AV.list 2 (l.map B1.cs), AV.str k] (AV.int (N8 l k)) := by
 refine B3 Tryz.func262 rfl Tryz.ntmps262 rfl ?_;refine R8 ?_;refine A1 rfl (A5 rfl Tryz.call282 rfl (Ba3 _ _) F0) ?_;refine R8 ?_;refine A3 ?_ ?_
 ·intro h10;have k10 := C5 h10;have hn : d7 l k = none := CC0 k10;have he : N8 l k = 0 := by unfold N8; rw [hn]
  rw [he];refine R5 ?_;exact D6 rfl (A6 rfl qz9)
 intro h10;have k10 := B9 h10;obtain ⟨p, c, hp, hc, hf⟩ := CC1 k10;rw [hp];obtain ⟨v, hv, hlv⟩ := CJ6 (ho.2 c (C2 hc));have hcl := AK4 (L8 (U6 hc) hs);have hc1 := ho.2 c (C2 hc);have he : N8 l k = v.Time := by unfold N8; rw [hf]; exact hlv
 rw [he];refine R5 ?_;refine C0 rfl rfl (D3 rfl D2 I1 (A0 rfl) (A0 rfl) hc qz2) ?_;refine R4 ?_;refine C0 rfl rfl (D3 rfl D2 I1 (A0 rfl) (A0 rfl) hc qz2) ?_;refine R4 ?_;refine C0 rfl rfl (D3 rfl V5 n8 (A0 rfl) (A0 rfl) hv qz2) ?_;refine R5 ?_;exact D6 rfl (A6 rfl qz9)
end Go.PQ
namespace Go.PQ
open Go.Proofs
open Go Go.AV Go.M
attribute [local irreducible] OpW OpA OpS AWP J6 L3 K2 K6 Le Ev F7
end Go.PQ
namespace Go.M
open Go.AV
structure j9 where
  p : Nat
  seed : Int
def Aq4 (l : List Int) : AV := AV.list 1 (l.map fun x => [AV.ik .u8 x])
def f9 (code : List Int) (c : j9) : List AV := [Aq4 code, AV.int c.p, AV.ik .u64 c.seed]
def AC3 (code : List Int) : Prop := ∀ x ∈ code, 0 ≤ x ∧ x ≤ 255
theorem CY2 {l : List Int} (h : ∀ x ∈ l, (Lit.int .u8 x).wf = true) : AC3 l := fun x hx => by
  have := h x hx;simp only [Lit.wf, IntKind.min, IntKind.max, IntKind.signed, IntKind.bits] at this;simp at this;omega
theorem Bg5 {x : Int} (h : 0 ≤ x ∧ x ≤ 255) : IntKind.i64.wrap x = x := BC7 qz8
theorem AW9 (x : Int) : 0 ≤ T7 x 255 ∧ T7 x 255 ≤ 255 := by
  unfold T7;have h1 : (BitVec.ofInt IntKind.u64.bits x &&& BitVec.ofInt IntKind.u64.bits 255).toNat ≤ 255 := by
    rw [BitVec.toNat_and];exact L8 Nat.and_le_right F1
  generalize (BitVec.ofInt IntKind.u64.bits x &&& BitVec.ofInt IntKind.u64.bits 255).toNat = n at h1
  unfold IntKind.wrap;simp [IntKind.bits, IntKind.signed];omega
def bigB (code more : List Int) : Bool := decide ((1048576 : Int) < code.length) || decide ((1048576 : Int) - code.length < more.length)
theorem DB6 {l : List A4} (h : adj N3 l = true) (k : Str) : Ay2 l k = AN7 l k := by
  have e := Bm3 h k
  cases hw : Ay2 l k with
  | true =>
    obtain ⟨x, hx, hk⟩ := BR6.1 hw;exact (AX9.2 ⟨x, C2 hx, hk⟩).symm
  | false =>
    rw [hw] at e;simp only [Bool.false_eq_true, if_false] at e;unfold findW at e;rw [List.find?_eq_none] at e
    cases hk : AN7 l k with
    | false => rfl
    | true => obtain ⟨x, hx, hxk⟩ := AX9.1 hk; have := e x hx; simp [hxk] at this
theorem Ct7 {w : List A4} (h : j5 w = true) : adj N3 w = true := by
  unfold j5 g7 Q3 at h;simp only [E8] at h;have := h.1.2.2;rw [BM2] at this;exact this
theorem DB7 {l : List B1} (ha : adj j6 l = true) {k : Str} {c : B1} (hc : Ap2 l k = true → l[AC9 l k]? = some c) : Ab2 l k = (Ap2 l k && decide ((16 : Int) ≤ (c.Vers.length : Int))) := by
  unfold Ab2;rw [Bm7 ha]
  cases h : Ap2 l k with
  | false => simp
  | true =>
    rw [D0 rfl, hc h, Bool.true_and];dsimp only;rw [decide_eq_decide]; omega
theorem AI6 {l : List D1} {i : Nat} {h : D1} {n : Nat} (hs : C7 D1.size l ≤ n) (hx : l[i]? = some h) : h.size ≤ n ∧ C7 A4.size h.Writes ≤ n ∧ h.Writes.length ≤ n ∧ h.Reads.length ≤ n ∧ (AT4 h).size ≤ n := by
  have h1 := L8 (U6 hx) hs;have h2 : h.size = C7 (fun x => x.length) h.Reads + C7 A4.size h.Writes := rfl;have h3 := L9 (f := fun x : Str => x.length) (l := h.Reads);have h4 := L9 (f := A4.size) (l := h.Writes);have h5 : (AT4 h).size = C7 (fun x => x.length) h.Reads + C7 A4.size h.Writes := rfl;exact ⟨by omega, by omega, by omega, by omega, by omega⟩
theorem CO0 {α : Type} {f : α → Nat} {l : List α} (i : Nat) : C7 f (l.take i) ≤ C7 f l := by
  have := Ad2 (f := f) (l := l.take i) (r := l.drop i);rw [Ab0] at this; omega
theorem CD1 : ∀ {l : List D1}, (hWs l).length ≤ C7 D1.size l
  | [] => E2 _
  | h :: l => by
    have ih := CD1 (l := l);have h4 := L9 (f := A4.size) (l := h.Writes);have h2 : h.size = C7 (fun x => x.length) h.Reads + C7 A4.size h.Writes := rfl;rw [As0, H3, X0]; omega
theorem CY3 {l : List D1} {i : Nat} {h : D1} (hx : l[i]? = some h) : hWs (l.take (i + 1)) = hWs (l.take i) ++ h.Writes := by
  rw [T5, hx, BR9];show _ ++ hWs [h] = _
  rw [As0]; simp [hWs]
def tCmp (n : Int) (t : N1) : Int := AI8 t.Txn n
def hCmp (n : Int) (h : D1) : Int := AI8 h.Txn n
def Aa8 (l : List D1) (n : Int) : Nat := bs (hCmp n) l 0 l.length
def At2 (l : List D1) (n : Int) : Bool := Ae6 (hCmp n) l (Aa8 l n)
def Ay3 (l : List N1) (n : Int) : Nat := bs (tCmp n) l 0 l.length
def tHas (l : List N1) (n : Int) : Bool := Ae6 (tCmp n) l (Ay3 l n)
theorem BS7 (a b : Int) : AI8 a b < 0 ↔ a < b := by unfold AI8; split <;> (try split) <;> omega
theorem BL0 (a b : Int) : AI8 a b = 0 ↔ a = b := by unfold AI8; split <;> (try split) <;> omega
theorem BB9 {α : Type} {f : α → Int} {l : List α} (h : l.Pairwise fun a b => f a < f b) {i j : Nat} {x y : α} (hij : i < j) (hx : l[i]? = some x) (hy : l[j]? = some y) : f x < f y := by
  obtain ⟨i1, i2⟩ := E9.1 hx;obtain ⟨j1, j2⟩ := E9.1 hy;have := List.pairwise_iff_getElem.1 h i j i1 j1 hij;rw [i2, j2] at this; exact this
theorem Bn5 {α : Type} {f : α → Int} {l : List α} (h : l.Pairwise fun a b => f a < f b) (n : Int) : (∀ i x, i < bs (fun a => AI8 (f a) n) l 0 l.length → l[i]? = some x → f x < n) ∧ (∀ x, l[bs (fun a => AI8 (f a) n) l 0 l.length]? = some x → n ≤ f x) := by
  have := CB7 (fun a => AI8 (f a) n) l (fun i j x y hij hx hy hf => by
    rw [BS7] at *;have := BB9 h hij hx hy; omega) l.length 0 l.length rfl (E2 _) (K5 _) (fun k x hk => by omega) (fun x hx => by rw [AO4 (K5 _)] at hx; cases hx)
  exact ⟨fun i x hi hx => (BS7 _ _).1 (this.1 i x hi hx), fun x hx => by have := this.2 x hx; rw [BS7] at this; omega⟩
theorem Co7 {α : Type} {f : α → Int} {l : List α} (h : l.Pairwise fun a b => f a < f b) (n : Int) : Ae6 (fun a => AI8 (f a) n) l (bs (fun a => AI8 (f a) n) l 0 l.length) = l.any fun a => f a == n := by
  obtain ⟨h1, h2⟩ := Bn5 h n
  cases ha : l.any fun a => f a == n with
  | true =>
    rw [List.any_eq_true] at ha;obtain ⟨x, hx, e⟩ := ha;obtain ⟨i, hi⟩ := X9 hx;have e : f x = n := by simpa using e
    have hip : bs (fun a => AI8 (f a) n) l 0 l.length = i := by
      rcases Nat.lt_trichotomy i (bs (fun a => AI8 (f a) n) l 0 l.length) with h3 | h3 | h3
      · have := h1 i x h3 hi; omega
      · exact h3.symm
      · have hl := (E9.1 hi).1
        have hy := N6 (show bs (fun a => AI8 (f a) n) l 0 l.length < l.length by omega);have h4 := h2 _ hy;have h5 := BB9 h h3 hy hi; omega
    rw [hip];unfold Ae6;rw [hi];simp only [(BL0 _ _).2 e]; rfl
  | false =>
    rw [List.any_eq_false] at ha;unfold Ae6
    cases e : l[bs (fun a => AI8 (f a) n) l 0 l.length]? with
    | none => rfl
    | some x =>
      have := ha x (C2 e);simp only [j0] at this ⊢;rw [beq_eq_false_iff_ne];exact fun k => this ((BL0 _ _).1 k)
theorem BC0 {l : List D1} (h : l.Pairwise fun a b => a.Txn < b.Txn) (n : Int) : At2 l n = AP1 l n := Co7 (f := D1.Txn) h n
theorem Bg6 {l : List N1} (h : l.Pairwise fun a b => a.Txn < b.Txn) (n : Int) : tHas l n = AM2 l n := Co7 (f := N1.Txn) h n
theorem AA3 {s : D9} {n : Nat} (h : s.size ≤ n) : C7 B1.size s.Cells ≤ n ∧ C7 D1.size s.Held ≤ n ∧ s.Told.length ≤ n ∧ s.Cells.length ≤ n ∧ s.Held.length ≤ n := by
  have h1 : s.size = C7 B1.size s.Cells + C7 D1.size s.Held + s.Told.length := rfl;have h2 := L9 (f := B1.size) (l := s.Cells);have h3 := L9 (f := D1.size) (l := s.Held);exact ⟨by omega, by omega, by omega, by omega, by omega⟩
theorem DB8 {s : D9} {i : Nat} {h y : D1} (hx : s.Held[i]? = some h) (hy : s.Held[i - 1]? = some y) : Ai9 s i = (!(((!S1 (AT4 h) || decide (s.Floor < h.Time)) || (decide ((0 : Int) < (i : Int)) && decide (h.Txn ≤ y.Txn)))) && (!((s.Held.take i).any fun g => Ap3 h g) && !(h.Writes.any fun w => decide (h.Time ≤ N8 s.Cells w.Key)))) := by
  unfold Ai9;rw [hx];have h1 : By7 s.Held i h.Txn = !(decide ((0 : Int) < (i : Int)) && decide (h.Txn ≤ y.Txn)) := by
    unfold By7; rw [hy]; dsimp only;congr 2
    rw [decide_eq_decide]; omega
  have h2 : ((s.Held.take i).all fun g => apart g h.Reads h.Writes) = !((s.Held.take i).any fun g => Ap3 h g) := by
    rw [List.not_any_eq_all_not]; congr 1; funext g; rw [BK4, Bool.not_not]
  have h3 : (h.Writes.all fun w => decide (N8 s.Cells w.Key < h.Time)) = !(h.Writes.any fun w => decide (h.Time ≤ N8 s.Cells w.Key)) := by
    rw [List.not_any_eq_all_not]; congr 1; funext w; rw [← decide_not, decide_eq_decide]; omega
  dsimp only;rw [h1, h2, h3];simp only [Bool.not_or, Bool.not_not, Bool.and_assoc]
theorem Bn6 {h : D1} (hg : S1 (AT4 h) = true) : adj N3 h.Writes = true := by
  unfold S1 AT4 at hg;rw [D0 rfl] at hg;unfold Av3 at hg;simp only [E8] at hg;exact Ct7 hg.1.1.2
theorem DB9 {s : D9} {i : Nat} {t y : N1} (hx : s.Told[i]? = some t) (hy : s.Told[i - 1]? = some y) : Ap4 s i = (!((!AL1 t.Txn || !((t.Yes && within t.Time 1 s.Floor) || (!t.Yes && (t.Time == 0)))) || (decide ((0 : Int) < (i : Int)) && decide (t.Txn ≤ y.Txn))) && !AP1 s.Held t.Txn) := by
  unfold Ap4;rw [hx];have h1 : By8 s.Told i t.Txn = !(decide ((0 : Int) < (i : Int)) && decide (t.Txn ≤ y.Txn)) := by
    unfold By8; rw [hy]; dsimp only;congr 2
    rw [decide_eq_decide]; omega
  have h2 : BB0 s t = ((t.Yes && within t.Time 1 s.Floor) || (!t.Yes && (t.Time == 0))) := by
    unfold BB0; cases t.Yes <;> simp
  dsimp only;rw [h1, h2];generalize ((t.Yes && within t.Time 1 s.Floor) || (!t.Yes && (t.Time == 0))) = b
  simp only [Bool.not_or, Bool.not_not, Bool.and_assoc]
end Go.M
namespace Go.PQ
open Go.Proofs
open Go Go.AV Go.M
attribute [local irreducible] OpW OpA OpS AWP J6 L3 K7 OpE K2 H9 K6 Le Ev F7 M7 Int.tmod Int.tdiv IntKind.wrap
end Go.PQ
namespace Go.PQ
open Go.Proofs
open Go Go.AV Go.M
attribute [local irreducible] OpW OpA OpS AWP J6 L3 K7 OpE K2 H9 K6 Le Ev F7 M7 Int.tmod Int.tdiv IntKind.wrap
end Go.PQ
namespace Go.PQ
open Go.Proofs
open Go Go.AV Go.M
attribute [local irreducible] OpW OpA OpS AWP J6 L3 K7 OpE K2 H9 K6 Le Ev F7 M7 Int.tmod Int.tdiv IntKind.wrap
end Go.PQ
namespace Go.PQ
open Go.Proofs
open Go Go.AV Go.M
attribute [local irreducible] OpW OpA OpS AWP J6 L3 K7 OpE K2 H9 K6 Le Ev F7 M7
end Go.PQ
namespace Go.PQ
open Go.Proofs
open Go Go.AV Go.M
attribute [local irreducible] OpW OpA OpS AWP J6 L3 K7 OpE K2 H9 K6 Le Ev F7 M7 Int.tmod IntKind.wrap T7
theorem Bj3 (b : Nat) (code : List Int) (hcode : AC3 code) (c : j9) (hp : c.p ≤ 8000000) : M1 38 [AV.ptr b 0] [.box b 48 (f9 code c)] (fun x : j9 × Int => x.1.p ≤ c.p + 1 ∧ 0 ≤ x.2 ∧ x.2 ≤ 255) (fun x => [.box b 48 (f9 code x.1)]) (fun x => AV.int x.2) := by
 have hcb := hcode;refine C8 Tryz.func38 rfl Tryz.ntmps38 rfl ?_;refine R6 ?_;try rw [Bg5 hzb]
 refine R16 ?_;refine A3 ?_ ?_
 ·intro h13;have k13 := C5 h13;obtain ⟨z, hz⟩ := B4 (show c.p < code.length by omega);have hzb := hcb z (C2 hz);refine R9 ?_;refine C0 rfl rfl (D3 rfl q6 Tryz.sizeOf5 (A0 rfl) (A0 rfl) hz rfl) ?_;refine R1 ?_;refine C0 rfl rfl (Ah9 rfl D4 o6 (A0 rfl)) ?_;try rw [Bg5 hzb]
  refine R20 ?_;refine A1 rfl (w_mul rfl (A0 rfl) L1) ?_;refine R1 ?_;refine A1 rfl (Ah9 rfl D4 AH7 (A0 rfl)) ?_;refine A1 rfl (Bq7 rfl (A0 rfl) (A0 rfl)) ?_;refine A1 rfl (Bq7 rfl (A0 rfl) L1) ?_;refine R18 ?_;refine A3 ?_ ?_
  ·intro h53;refine R6 ?_
   (refine I4 [0] ((⟨c.p + 1, _⟩, _)) ?_ rfl l9 (M4 rfl (A6 rfl qz9)); first | exact ⟨K5 _, hzb⟩ | exact ⟨K5 _, Int.le_refl 0, (show (0 : Int) ≤ 255 by decide)⟩ | (rw [Bg5 (AW9 _)]; exact ⟨K5 _, AW9 _⟩))
  intro h53;refine R7 ?_;refine A1 rfl (w_shr rfl (A0 rfl) L1 F1 F1) ?_;refine A1 rfl (w_band rfl (A0 rfl) L1) ?_;refine A1 rfl (Ah9 rfl D4 o6 (A0 rfl)) ?_;refine R3 ?_
  (refine I4 [0] ((⟨c.p + 1, _⟩, _)) ?_ rfl l9 (M4 rfl (A6 rfl qz9)); first | exact ⟨K5 _, hzb⟩ | exact ⟨K5 _, Int.le_refl 0, (show (0 : Int) ≤ 255 by decide)⟩ | (rw [Bg5 (AW9 _)]; exact ⟨K5 _, AW9 _⟩))
 intro h13;have k13 := B9 h13;refine R19 ?_;refine A1 rfl (w_mul rfl (A0 rfl) L1) ?_;refine R1 ?_;refine A1 rfl (Ah9 rfl D4 AH7 (A0 rfl)) ?_;refine A1 rfl (Bq7 rfl (A0 rfl) (A0 rfl)) ?_;refine A1 rfl (Bq7 rfl (A0 rfl) L1) ?_;refine R18 ?_;refine A3 ?_ ?_
 ·intro h53;refine R6 ?_
  (refine I4 [0] ((⟨c.p + 1, _⟩, _)) ?_ rfl l9 (M4 rfl (A6 rfl qz9)); first | exact ⟨K5 _, hzb⟩ | exact ⟨K5 _, Int.le_refl 0, (show (0 : Int) ≤ 255 by decide)⟩ | (rw [Bg5 (AW9 _)]; exact ⟨K5 _, AW9 _⟩))
 intro h53;refine R7 ?_;refine A1 rfl (w_shr rfl (A0 rfl) L1 F1 F1) ?_;refine A1 rfl (w_band rfl (A0 rfl) L1) ?_;refine A1 rfl (Ah9 rfl D4 o6 (A0 rfl)) ?_;refine R3 ?_
 (refine I4 [0] ((⟨c.p + 1, _⟩, _)) ?_ rfl l9 (M4 rfl (A6 rfl qz9)); first | exact ⟨K5 _, hzb⟩ | exact ⟨K5 _, Int.le_refl 0, (show (0 : Int) ≤ 255 by decide)⟩ | (rw [Bg5 (AW9 _)]; exact ⟨K5 _, AW9 _⟩))
theorem S2 (b : Nat) (code : List Int) (hcode : AC3 code) (c : j9) (n : Int) (hn : n ≤ 1000000) (hp : c.p ≤ 7000000) : M1 15 [AV.ptr b 0, AV.int n] [.box b 48 (f9 code c)] (fun x : j9 × Int => x.1.p ≤ c.p + 2 ∧ 0 ≤ x.2 ∧ (x.2 < n ∨ x.2 = 0)) (fun x => [.box b 48 (f9 code x.1)]) (fun x => AV.int x.2) := by
 refine C8 Tryz.func15 rfl Tryz.ntmps15 rfl ?_;refine R10 ?_;refine A3 ?_ ?_
 ·intro h7;have k7 := C5 h7;refine R5 ?_
  (refine I4 [0] ((_, _)) ?_ rfl l9 (M4 rfl (A6 rfl qz9)); (dsimp only; first | omega | exact ⟨by omega, Int.tmod_nonneg _ qz8, .inl (Int.tmod_lt_of_pos _ qz8)⟩))
 intro h7;have k7 := B9 h7;refine R4 ?_;refine F8 [0] rfl rfl rfl rfl Tryz.call38 rfl (Bj3 _ _ hcode _ qz8) (A2 (A0 rfl) B0) rfl ?_;intro x9 ok9;refine R8 ?_;refine A3 ?_ ?_
 ·intro h11;have k11 := C5 h11;refine R2 ?_;refine A1 rfl (Ah8 rfl (A0 rfl) L1 qz2) ?_;refine R1 ?_;refine F8 [0] rfl rfl rfl rfl Tryz.call38 rfl (Bj3 _ _ hcode _ qz8) (A2 (A0 rfl) B0) rfl ?_;intro x15 ok15;refine R7 ?_;refine A1 rfl (BQ2 rfl (A0 rfl) (A0 rfl) qz8) ?_;refine R3 ?_
  (refine I4 [0] ((_, _)) ?_ rfl l9 (M4 rfl (A6 rfl qz9)); (dsimp only; first | omega | exact ⟨by omega, Int.tmod_nonneg _ qz8, .inl (Int.tmod_lt_of_pos _ qz8)⟩))
 intro h11;have k11 := B9 h11;refine R5 ?_;refine A1 rfl (BQ2 rfl (A0 rfl) (A0 rfl) qz8) ?_;refine R3 ?_
 (refine I4 [0] ((_, _)) ?_ rfl l9 (M4 rfl (A6 rfl qz9)); (dsimp only; first | omega | exact ⟨by omega, Int.tmod_nonneg _ qz8, .inl (Int.tmod_lt_of_pos _ qz8)⟩))
theorem Ct8 (b : Nat) (code : List Int) (hcode : AC3 code) (c : j9) (n : Int) (hn : n ≤ 1000000) (hp : c.p ≤ 7000000) : M1 185 [AV.ptr b 0, AV.int n] [.box b 48 (f9 code c)] (fun x : j9 × Bool => x.1.p ≤ c.p + 2) (fun x => [.box b 48 (f9 code x.1)]) (fun x => AV.bool x.2) := by
  refine C8 Tryz.func185 rfl Tryz.ntmps185 rfl ?_;refine R8 ?_;refine F8 [0] rfl rfl rfl rfl Tryz.call15 rfl (S2 _ _ hcode _ _ qz8 qz8) (A2 (A0 rfl) (A2 (A0 rfl) B0)) rfl ?_;intro x7 ok7;refine R4 ?_
  (refine I4 [0] ((_, _)) ?_ rfl l9 O6; exact ok7.1)
theorem AC7 (b : Nat) (code : List Int) (hcode : AC3 code) (c : j9) (l : List Int) (hl : 1 ≤ l.length ∧ l.length ≤ 1000) (hp : c.p ≤ 7000000) : M1 37 [AV.ptr b 0, ints l] [.box b 48 (f9 code c)] (fun x : j9 × Int => x.1.p ≤ c.p + 2 ∧ x.2 ∈ l) (fun x => [.box b 48 (f9 code x.1)]) (fun x => AV.int x.2) := by
  obtain ⟨hl1, hl2⟩ := hl;refine C8 Tryz.func37 rfl Tryz.ntmps37 rfl ?_;refine R10 ?_;refine F8 [0] rfl rfl rfl rfl Tryz.call15 rfl (S2 _ _ hcode _ _ AB7 qz8) (A2 (A0 rfl) (A2 (A0 rfl) B0)) rfl ?_;intro x9 ok9;simp only [A7] at ok9;obtain ⟨y, hy⟩ := B4 (show x9.2.toNat < l.length by omega);refine A1 rfl (D3 rfl G5 E7 (A0 rfl) (A0 rfl) hy qz8) ?_;refine R4 ?_
  (refine I4 [0] ((_, _)) ?_ rfl l9 O6; exact ⟨ok9.1, C2 hy⟩)
end Go.PQ
namespace Go.PQ
open Go.Proofs
open Go Go.AV Go.M
attribute [local irreducible] OpW OpA OpS AWP J6 L3 K7 OpE K2 H9 K6 Le Ev F7 M7
theorem big_spec (code more : List Int) : E1 4 [Aq4 code, Aq4 more] (AV.bool (bigB code more)) := by
 refine B3 Tryz.func4 rfl Tryz.ntmps4 rfl ?_;refine l7 (t := 0) rfl fun hl0 => ?_;try simp only [A7] at hl0
 refine l7 (t := 1) rfl fun hl1 => ?_;try simp only [A7] at hl1
 refine R14 ?_;refine Q7 rfl (fun hc => CU2 rfl L1 (A9 rfl hc) AB7) ?_;refine R5 ?_;exact D6 rfl (A6 rfl (by (refine C3 AV.bool ?_; unfold bigB; simp only [A7])))
end Go.PQ
namespace Go.PQ
open Go.Proofs
open Go Go.AV Go.M
attribute [local irreducible] OpW OpA OpS AWP J6 L3 K7 OpE K2 H9 K6 Le Ev F7 M7 Int.tmod Int.tdiv IntKind.wrap T7
end Go.PQ
namespace Go.PQ
open Go.Proofs
open Go Go.AV Go.M
attribute [local irreducible] OpW OpA OpS AWP J6 L3 K7 OpE K2 H9 K6 Le Ev F7 M7 Int.tmod Int.tdiv IntKind.wrap
theorem BL1 (n : Int) : E1 141 [AV.int n] (AV.bool (AL1 n)) := by
  refine B3 Tryz.func141 rfl Tryz.ntmps141 rfl ?_;refine R7 ?_;refine A1 rfl (A5 rfl Tryz.call39 rfl (Y8 _ _ _) AJ2) ?_;refine R3 ?_;exact D6 rfl (A6 rfl C1)
namespace tw6n4
def Bz1 := @Tryz.func200
def Bz2 := @Tryz.ntmps200
def Bz3 := @Tryz.call24
def Bz4 := @P3
end tw6n4
open tw6n4 in
theorem Ad6 (t : Int) : E1 200 [AV.int t] (AV.bool (within t 1 100000)) := BN5
theorem Ba4 {r : M5} (hs : r.size ≤ 1048576) : (∀ k ∈ r.Reads, k.length ≤ 4611686018427387904) ∧ C7 A4.size r.Writes ≤ 1048576 ∧ r.Reads.length ≤ 1048576 ∧ r.Writes.length ≤ 1048576 := by
  unfold M5.size at hs;have h1 := L9 (f := fun x : Str => x.length) (l := r.Reads);have h2 := L9 (f := A4.size) (l := r.Writes);exact ⟨fun k hk => by have := Al3 (f := fun x : Str => x.length) hk; omega, by omega, by omega, by omega⟩
theorem CY4 (r : M5) (hs : r.size ≤ 1048576) : E1 140 [AV.agg r.cs] (AV.bool (S1 r)) := by
 obtain ⟨hr1, hr2, hr3, hr4⟩ := Ba4 hs;refine B3 Tryz.func140 rfl Tryz.ntmps140 rfl ?_;refine R3 ?_;intro b1;refine R33 ?_;refine A3 ?_ ?_
 ·intro h21;have k21 := J9 h21;(try simp only [A7] at k21);refine R4 ?_;refine A1 rfl (A5 rfl Tryz.call141 rfl (BL1 _) J3) ?_;refine R3 ?_;refine L6 rfl (fun hc => A5 rfl Tryz.call167 rfl (AZ8 _) (A2 (A9 rfl hc) B0)) ?_;refine R4 ?_;refine L6 rfl (fun hc => A5 rfl Tryz.call39 rfl (Y8 _ _ _) (A2 (A9 rfl hc) AO2)) ?_;refine R10 ?_;refine L6 rfl (fun hc => A5 rfl Tryz.call46 rfl (AV0 r.Reads hr1) (A2 (A9 rfl hc) B0)) ?_;refine R10 ?_;refine L6 rfl (fun hc => A5 rfl Tryz.call22 rfl (AR3 r.Writes qz8) (A2 (A9 rfl hc) B0)) ?_;refine R19 ?_;exact D6 rfl (A6 rfl Bl0)
 intro h21;have k21 := J5 h21;(try simp only [A7] at k21);refine R6 ?_;refine A3 ?_ ?_
 ·intro h73;have k73 := J9 h73;(try simp only [A7] at k73);refine R1 ?_;refine A3 ?_ ?_
  ·intro h73;have k73 := J9 h73;(try simp only [A7] at k73);refine R6 ?_;refine L6 rfl (fun hc => A5 rfl Tryz.call141 rfl (BL1 _) (A2 (A9 rfl hc) B0)) ?_;refine R7 ?_;refine s9 rfl rfl (X4 rfl rfl rfl) (fun hc => A5 rfl Tryz.call167 rfl (AZ8 _) (A2 (A9 rfl hc) B0)) ?_;refine R15 ?_;exact D6 rfl (A6 rfl Bl0)
  intro h73;have k73 := J5 h73;(try simp only [A7] at k73);refine R5 ?_;refine A3 ?_ ?_
  ·intro h101;have k101 := J9 h101;(try simp only [A7] at k101);refine R11 ?_;refine L6 rfl (fun hc => A5 rfl Tryz.call167 rfl (AZ8 _) (A2 (A9 rfl hc) B0)) ?_;refine R9 ?_;exact D6 rfl (A6 rfl Bl0)
  intro h101;have k101 := J5 h101;(try simp only [A7] at k101);refine R6 ?_;exact D6 rfl (A6 rfl Bl0)
 intro h73;have k73 := J5 h73;(try simp only [A7] at k73);refine R4 ?_;refine A3 ?_ ?_
 ·intro h73;have k73 := J9 h73;(try simp only [A7] at k73);refine R6 ?_;refine L6 rfl (fun hc => A5 rfl Tryz.call141 rfl (BL1 _) (A2 (A9 rfl hc) B0)) ?_;refine R7 ?_;refine s9 rfl rfl (X4 rfl rfl rfl) (fun hc => A5 rfl Tryz.call167 rfl (AZ8 _) (A2 (A9 rfl hc) B0)) ?_;refine R15 ?_;exact D6 rfl (A6 rfl Bl0)
 intro h73;have k73 := J5 h73;(try simp only [A7] at k73);refine R5 ?_;refine A3 ?_ ?_
 ·intro h101;have k101 := J9 h101;(try simp only [A7] at k101);refine R11 ?_;refine L6 rfl (fun hc => A5 rfl Tryz.call167 rfl (AZ8 _) (A2 (A9 rfl hc) B0)) ?_;refine R9 ?_;exact D6 rfl (A6 rfl Bl0)
 intro h101;have k101 := J5 h101;(try simp only [A7] at k101);refine R6 ?_;exact D6 rfl (A6 rfl Bl0)
theorem Ci5 (l : List Str) (hs : ∀ k ∈ l, k.length ≤ 4611686018427387904) : E1 201 [strs l] (AV.bool (BO3 l)) := by
 refine B3 Tryz.func201 rfl Tryz.ntmps201 rfl ?_;refine l7 (t := 0) rfl fun hl => ?_;try simp only [A7] at hl
 refine R12 ?_;refine F2 [(0, _), (5, _), (6, _)] _ (fun (i : Nat) => i ≤ l.length ∧ (l.all n1 && adj Op.bytesLess l) = ((l.drop i).all n1 && adj Op.bytesLess (l.drop (i - 1)))) (fun i => []) (fun i => [(7, AV.int i)]) (fun i => l.length - i) (0) ?_ (G3 A8) ?_
 ·exact ⟨E2 _, rfl⟩
 intro i hinv;refine R5 ?_;refine A3 ?_ ?_
 ·intro h8;have k8 := C5 h8;have hlt : i < l.length := by omega
  obtain ⟨x, hx⟩ := B4 hlt;obtain ⟨y, hy⟩ := B4 (show i - 1 < l.length by omega);have hsx := hs x (C2 hx);refine R6 ?_;refine A1 rfl (AT8 rfl E3 I2 (A0 rfl) (A0 rfl) qz8 qz178) ?_;refine R7 ?_;refine A1 rfl (A5 rfl Tryz.call94 rfl (AR2 _ qz8) (A2 (A0 rfl) B0)) ?_;refine R8 ?_;refine s9 rfl rfl (X4 rfl rfl rfl) (fun hc => AT8 rfl E3 I2 (A9 rfl hc) (A9 rfl hc) (by have := r3 (Az2 hc); omega) qz97) ?_;refine R2 ?_;refine s9 rfl rfl (X4 rfl rfl rfl) (fun hc => BX2 rfl (A9 rfl hc) (A9 rfl hc)) ?_;refine R3 ?_;refine A3 ?_ ?_
  ·intro h27;have hfin : (l.all n1 && adj Op.bytesLess l) = false := by rw [hinv.2, I8 hx, p8]; cases hg : n1 x with | false => simp | true => (simp only [hg, Bool.not_true, Bool.false_or, E8, H1, i6] at h27; rw [Ad0 hx hy qz8 h27.2]; simp)
   refine R5 ?_;exact D6 rfl (A6 rfl qz138)
  intro h27;refine R5 ?_;refine G4 i (i + 1) ?_ ?_ (G3 A8)
  ·exact ⟨by omega, by rw [hinv.2, I8 hx, p8, Ac9 hx hy (fun h0 => by simp_all), show n1 x = true by simp_all, Bool.true_and]⟩
  omega
 intro h8;have k8 := B9 h8;have hge : l.length ≤ i := by omega
 refine R9 ?_;exact D6 rfl (A6 rfl qz138)
theorem Bj4 (r : M5) (hs : r.size ≤ 1048576) : E1 165 [AV.agg r.cs] (AV.bool (Aw8 r)) := by
 obtain ⟨hr1, hr2, hr3, hr4⟩ := Ba4 hs;refine B3 Tryz.func165 rfl Tryz.ntmps165 rfl ?_;refine R3 ?_;intro b1;refine R24 ?_;refine A3 ?_ ?_
 ·intro h20;have ho : Ay1 r = true := by (unfold Ay1; simpa using h20)
  refine R5 ?_;exact D6 rfl (A6 rfl CA6)
 intro h20;have ho : Ay1 r = false := by (unfold Ay1; simpa using h20)
 refine R13 ?_;refine A3 ?_ ?_
 ·intro h23;have k23 := J9 h23;(try simp only [A7] at k23);refine R4 ?_;refine A1 rfl (A5 rfl Tryz.call24 rfl (P3 _ _ _) AJ2) ?_;refine R3 ?_;refine L6 rfl (fun hc => A5 rfl Tryz.call200 rfl (Ad6 _) (A2 (A9 rfl hc) B0)) ?_;refine R4 ?_;refine L6 rfl (fun hc => A5 rfl Tryz.call24 rfl (P3 _ _ _) (A2 (A9 rfl hc) AO2)) ?_;refine R4 ?_;refine L6 rfl (fun hc => A5 rfl Tryz.call201 rfl (Ci5 r.Reads hr1) (A2 (A9 rfl hc) B0)) ?_;refine R4 ?_;refine L6 rfl (fun hc => A5 rfl Tryz.call26 rfl (Ax5 r.Writes qz8) (A2 (A9 rfl hc) B0)) ?_;refine R5 ?_;refine L6 rfl (fun hc => A5 rfl Tryz.call24 rfl (P3 _ _ _) (A2 (A9 rfl hc) AO2)) ?_;refine R19 ?_;exact D6 rfl (A6 rfl CA6)
 intro h23;have k23 := J5 h23;(try simp only [A7] at k23);refine R6 ?_;refine A3 ?_ ?_
 ·intro h69;have k69 := J9 h69;(try simp only [A7] at k69);refine R1 ?_;refine A3 ?_ ?_
  ·intro h69;have k69 := J9 h69;(try simp only [A7] at k69);refine R4 ?_;refine A1 rfl (A5 rfl Tryz.call24 rfl (P3 _ _ _) AJ2) ?_;refine R6 ?_;refine s9 rfl rfl (X4 rfl rfl rfl) (fun hc => A5 rfl Tryz.call200 rfl (Ad6 _) (A2 (A9 rfl hc) B0)) ?_;refine R15 ?_;exact D6 rfl (A6 rfl CA6)
  intro h69;have k69 := J5 h69;(try simp only [A7] at k69);refine R14 ?_;refine L6 rfl (fun hc => A5 rfl Tryz.call200 rfl (Ad6 _) (A2 (A9 rfl hc) B0)) ?_;refine R9 ?_;exact D6 rfl (A6 rfl CA6)
 intro h69;have k69 := J5 h69;(try simp only [A7] at k69);refine R4 ?_;refine A3 ?_ ?_
 ·intro h69;have k69 := J9 h69;(try simp only [A7] at k69);refine R4 ?_;refine A1 rfl (A5 rfl Tryz.call24 rfl (P3 _ _ _) AJ2) ?_;refine R6 ?_;refine s9 rfl rfl (X4 rfl rfl rfl) (fun hc => A5 rfl Tryz.call200 rfl (Ad6 _) (A2 (A9 rfl hc) B0)) ?_;refine R15 ?_;exact D6 rfl (A6 rfl CA6)
 intro h69;have k69 := J5 h69;(try simp only [A7] at k69);refine R14 ?_;refine L6 rfl (fun hc => A5 rfl Tryz.call200 rfl (Ad6 _) (A2 (A9 rfl hc) B0)) ?_;refine R9 ?_;exact D6 rfl (A6 rfl CA6)
theorem BD8 (r : M5) (hs : r.size ≤ 1048576) : E1 136 [AV.agg r.cs] (AV.bool (Aw8 r)) := by
  refine B3 Tryz.func136 rfl Tryz.ntmps136 rfl ?_;refine R3 ?_;intro b1;refine R5 ?_;refine A1 rfl (A5 rfl Tryz.call165 rfl (Bj4 _ W1) (A2 (A0 rfl) B0)) ?_;refine R3 ?_;exact D6 rfl (A6 rfl qz9)
end Go.PQ
namespace Go.AV
open Go.Sort
theorem core_row {R : G9} {w w' : World} {v : Value} {g : Nat} {t : TypeId} {sz : Nat} {es es' : List (List AV)} {xs : List Value} (hb : v.ownBlock = some g) (hr : RLe R w) (hR : R g = none) (hg : w.grownBy w' (some g))
    (hown : w'.ownsRow 0 t sz v es'.length xs) (hd : l6 R xs es'.flatten) (hsz : ∀ e ∈ es', e.length = sz) :
    T6 (AR8 [.arr v t sz es]) w R [.arr v t sz es'] R w' := by
  refine ⟨hg.os, hg.tape, hg.output, hg.size, fun k hk hG => hg.block k hk fun e => hG ⟨_, Z5.2 rfl, ?_⟩, fun b o hbo => ?_, fun _ _ => rfl, fun o ho => ?_, fun o ho b e => ?_, ?_⟩
  · injection e with e; subst e; exact hb
  · have h1 := hr b o hbo
    have hlt : b < w.heap.size := (AR6.1 h1).1;rw [hg.block b hlt fun e => by injection e with e; subst e; rw [hR] at hbo; cases hbo]; exact h1
  · rw [Z5.1 ho]
    exact ⟨fun b e => by rw [hb] at e; injection e with e; subst e; exact hR, hsz, xs, hown, hd⟩
  · rw [Z5.1 ho] at e
    exact .inr ⟨_, Z5.2 rfl, e⟩
  · simp [Own.blk, hb]
theorem DC0 {R : G9} {w : World} {o : Own} (hr : RLe R w) (ho : Own.ok R w o) : T6 (AR8 [o]) w R [o] R w :=
  ⟨rfl, rfl, rfl, K5 _, fun _ _ _ => rfl, hr, fun _ _ => rfl, fun q hq => by rw [Z5.1 hq]; exact ho, fun q hq b e => .inr ⟨q, hq, e⟩, by
    simp only [AU2, List.filterMap_nil]
    cases Own.blk o <;> simp⟩
theorem denC_is {R : G9} {vs ys : List Value} (h : l6 R vs (ys.map AV.is)) : vs = ys := by
  refine List.ext_getElem? fun i => ?_;have hl := h.1;rw [A7] at hl;by_cases hi : i < ys.length
  · have h1 : vs[i]? = some vs[i] := N6 qz8
    have h2 : (ys.map AV.is)[i]? = some (AV.is ys[i]) := by rw [X2, N6 hi]; rfl
    have h3 := (h.2 i _ _ h1 h2).1;rw [h1, N6 hi];exact C3 some h3
  · rw [AO4 qz8, AO4 qz8]
theorem denC_mk {R : G9} {ys : List Value} (h : ∀ y ∈ ys, y.oneCell' = true) : l6 R ys (ys.map AV.is) := by
  refine ⟨by rw [A7], fun i v x hv hx => ?_⟩;rw [X2, hv] at hx;injection hx with hx; subst hx
  exact ⟨rfl, h v (C2 hv)⟩
theorem Bj5 {α : Type} (c : α → AV) (l : List α) : (l.map fun n => [c n]).flatten = l.map c := by
  induction l with
  | nil => rfl
  | cons x l ih => simp [ih]
section ordered
variable {P : Program} {f : FuncId} {t : TypeId} {α : Type} [Inhabited α]
theorem row_own1 (enc : α → Value) (h1c : ∀ x, (enc x).oneCell' = true) (srt : List α → List α) (hsl : ∀ l, (srt l).length = l.length)
    (h1 : ∀ (blk off cap : Nat) (zs : List α) (w : World), Holds enc w blk off zs.toArray → blk < w.heap.size → zs.length < 4611686018427387904 →
      Calls P f #[.slice (some ⟨blk, off, none⟩) zs.length cap] w fun e w' => e = .returned (.tuple #[]) ∧ ∃ n os, w' = grow (putRow enc (Sort.ahead w n) blk off (srt zs).toArray) os)
    (h0 : ∀ (p : Option Addr) (cap : Nat) (w : World), Calls P f #[.slice p 0 cap] w fun e w' => e = .returned (.tuple #[]) ∧ w' = w)
    (v : Value) (l : List α) (hl : l.length < 4611686018427387904) :
    K7 P f [AV.is v] [.arr v t 1 (l.map fun n => [AV.is (enc n)])] (fun _ : Unit => True) (fun _ => [.arr v t 1 ((srt l).map fun n => [AV.is (enc n)])]) (fun _ => AV.tup []) := by
  intro R w vs hr hd hok hnd;have hvs : vs = [v] := by
    obtain ⟨hlen, hval⟩ := hd
    cases vs with
    | nil => simp at hlen
    | cons a r =>
      cases r with
      | nil => have h9 := hval 0 a (AV.is v) rfl rfl; rw [show a = v from h9]
      | cons b r => simp at hlen
  subst hvs;have ho := hok _ (Z5.2 rfl);obtain ⟨hR, hsz, xs, hown, hden⟩ := ho;have hxs : xs = l.map enc := by
    rw [Bj5 (fun n => AV.is (enc n))] at hden;have h9 : l.map (fun n => AV.is (enc n)) = (l.map enc).map AV.is := by simp
    rw [h9] at hden;exact denC_is hden
  rw [A7] at hown;rcases hown.2 with ⟨hv, hn⟩ | ⟨g, cap, cur, hv, _, hg, hnc, hcm, hcs, htk⟩
  · have hl0 : l = [] := List.length_eq_zero_iff.1 hn
    subst hv; subst hl0;have hs0 : srt [] = [] := List.length_eq_zero_iff.1 (hsl []);refine (h0 none 0 w).mono ?_
    rintro e w' ⟨rfl, rfl⟩
    refine ⟨(), _, R, trivial, rfl, ⟨[], rfl, Z7.nil _⟩, ?_⟩;rw [hs0];exact DC0 hr (hok _ (Z5.2 rfl))
  · subst hv
    have hgl : g < w.heap.size := (AR6.1 hg).1;rw [Nat.mul_one] at htk hcs;have hH : Holds enc w g 0 l.toArray := fun j hj => by
      have hj' : j < l.length := by simpa using hj
      have h9 : cur.toList[j]? = some (enc l[j]) := by
        rw [← AA8 hj', htk, hxs, X2, N6 hj']; rfl
      refine ⟨?_, by simp [World.frozen?, hg]⟩;simp only [World.cell?, hg, Nat.zero_add];simp only [Option.isSome_none, Bool.false_eq_true, if_false];rw [← Array.getElem?_toList, h9];simp [hj']
    refine (h1 g 0 cap l w hH hgl hl).mono ?_
    rintro e w' ⟨rfl, n, os, rfl⟩
    refine ⟨(), _, R, trivial, rfl, ⟨[], rfl, Z7.nil _⟩, ?_⟩;have hgb : w.grownBy (grow (putRow enc (Sort.ahead w n) g 0 (srt l).toArray) os) (some g) := by
      refine ⟨rfl, rfl, rfl, by simp, fun k hk hne => ?_⟩;rw [heap_grow_old _ _ At8];have h9 : g ≠ k := fun e => hne (by rw [e]);simp [putRow, mapBlock, Sort.ahead, Array.getElem?_modify, h9]
    have hheap : (grow (putRow enc (Sort.ahead w n) g 0 (srt l).toArray) os).heap[g]? = some (.cells (putCells enc 0 (srt l).toArray cur) t (0, 0)) := by
      rw [heap_grow_old _ _ (by simpa using hgl)];simp [putRow, mapBlock, Sort.ahead, Array.getElem?_modify, hg, onCells]
    refine core_row (g := g) (xs := (srt l).map enc) rfl hr (hR g rfl) hgb ?_ ?_ ?_
    · rw [A7, hsl]
      refine ⟨by simp [hsl], .inr ⟨g, cap, _, rfl, E2 _, hheap, hnc, hcm, by simp [putCells, hcs], ?_⟩⟩;apply List.ext_getElem?
      intro j;by_cases hj : j < l.length
      · rw [AA8 qz8, Array.getElem?_toList]
        have h8 : j < (srt l).length := by rw [hsl]; exact hj
        simp [putCells, h8, show j < cur.size by omega]
      · rw [List.getElem?_take_eq_none qz8, AO4 (by simp [hsl]; omega)]
    · rw [Bj5 (fun n => AV.is (enc n))]
      have h9 : (srt l).map (fun n => AV.is (enc n)) = ((srt l).map enc).map AV.is := by simp
      rw [h9];exact denC_mk fun y hy => by obtain ⟨x, _, rfl⟩ := Y0.1 hy; exact h1c x
    · intro e he; obtain ⟨x, _, rfl⟩ := Y0.1 he; rfl
end ordered
end Go.AV
namespace Go.Proofs
open Go.Shelf
def Tryz.sortStrs_ren : Go.Shelf.Ren := ⟨fun | 190 => 295 | 125 => 321 | 258 => 320 | 128 => 347 | 129 => 267 | 302 => 338 | 303 => 339 | 304 => 340 | 305 => 341 | 306 => 342 | 307 => 343 | 308 => 344 | 309 => 345 | 310 => 346 | 333 => 353 | 329 => 354 | 330 => 355 | 334 => 356 | 335 => 357 | 336 => 88 | 344 => 359 | n => n, fun | 31 => 25 | 9 => 9 | 3 => 3 | 46 => 127 | 0 => 0 | 51 => 303 | 53 => 46 | 4 => 4 | 183 => 359 | 182 => 358 | 131 => 43 | 5 => 5 | 218 => 369 | 222 => 373 | 228 => 375 | 229 => 376 | n => n, fun | n => n⟩
theorem Tryz.sortStrs : Go.Proofs.Lays.n190 Tryz.prog Tryz.sortStrs_ren := {
  mixed := by kernel_rfl
  f125 := Tryz.func321.trans (C3 some D4)
  f128 := Tryz.func347.trans (C3 some D4)
  f129 := Tryz.func267.trans (C3 some D4)
  f190 := Tryz.func295.trans (C3 some D4)
  f258 := Tryz.func320.trans (C3 some D4)
  f302 := Tryz.func338.trans (C3 some D4)
  f303 := Tryz.func339.trans (C3 some D4)
  f304 := Tryz.func340.trans (C3 some D4)
  f305 := Tryz.func341.trans (C3 some D4)
  f306 := Tryz.func342.trans (C3 some D4)
  f307 := Tryz.func343.trans (C3 some D4)
  f308 := Tryz.func344.trans (C3 some D4)
  f309 := Tryz.func345.trans (C3 some D4)
  f310 := Tryz.func346.trans (C3 some D4)
  f329 := Tryz.func354.trans (C3 some D4)
  f330 := Tryz.func355.trans (C3 some D4)
  f333 := Tryz.func353.trans (C3 some D4)
  f334 := Tryz.func356.trans (C3 some D4)
  f335 := Tryz.func357.trans (C3 some D4)
  f336 := Tryz.func88.trans (C3 some D4)
  f344 := Tryz.func359.trans (C3 some D4)
  t0 := Tryz.underlying0
  a0 := Tryz.isAgg0
  z0 := Tryz.sizeOf0
  v0 := Tryz.zeroValue0
  t3 := o6
  a3 := Q8
  z3 := E7
  v3 := Tryz.zeroValue3
  t4 := m3
  a4 := AG0
  z4 := V0
  v4 := Tryz.zeroValue4
  t5 := AC2
  a5 := Tryz.isAgg5
  z5 := Tryz.sizeOf5
  v5 := Tryz.zeroValue5
  t9 := O5
  a9 := j4
  z9 := I2
  v9 := Tryz.zeroValue9
  t31 := E3
  a31 := Tryz.isAgg25
  z31 := z7
  v31 := Tryz.zeroValue25
  t46 := Tryz.underlying127
  a46 := Tryz.isAgg127
  z46 := Tryz.sizeOf127
  v46 := Tryz.zeroValue127
  t51 := Tryz.underlying303
  a51 := Tryz.isAgg303
  z51 := Tryz.sizeOf303
  v51 := Tryz.zeroValue303
  t53 := AH7
  a53 := Tryz.isAgg46
  z53 := Tryz.sizeOf46
  v53 := Tryz.zeroValue46
  t131 := Tryz.underlying43
  a131 := Tryz.isAgg43
  z131 := Tryz.sizeOf43
  v131 := Tryz.zeroValue43
  t182 := Tryz.underlying358
  a182 := Tryz.isAgg358
  z182 := Tryz.sizeOf358
  v182 := Tryz.zeroValue358
  t183 := Tryz.underlying359
  a183 := Tryz.isAgg359
  z183 := Tryz.sizeOf359
  v183 := Tryz.zeroValue359
  t218 := Tryz.underlying369
  a218 := Tryz.isAgg369
  z218 := Tryz.sizeOf369
  v218 := Tryz.zeroValue369
  t222 := Tryz.underlying373
  a222 := Tryz.isAgg373
  z222 := Tryz.sizeOf373
  v222 := Tryz.zeroValue373
  t228 := Tryz.underlying375
  a228 := Tryz.isAgg375
  z228 := Tryz.sizeOf375
  v228 := Tryz.zeroValue375
  t229 := Tryz.underlying376
  a229 := Tryz.isAgg376
  z229 := Tryz.sizeOf376
  v229 := Tryz.zeroValue376 }
end Go.Proofs
namespace Go.PQ
open Go.Proofs
open Go Go.AV Go.M
attribute [local irreducible] OpW OpA OpS AWP J6 L3 K7 OpE K2 H9 K6 Le Ev F7 M7 Int.tmod Int.tdiv IntKind.wrap
theorem CJ7 (x y : A4) : (x.Key == y.Key && (x.Val == y.Val && (x.Gone == y.Gone && true))) = decide (x = y) := by
  cases x; cases y
  rw [AO5];simp
theorem CY5 (v : Value) (l : List Str) (hl : l.length < 4611686018427387904) : M1 295 [AV.is v] [.arr v 9 1 (l.map fun s => [AV.str s])] (fun _ : Unit => True) (fun _ => [.arr v 9 1 ((Av4 l).map fun s => [AV.str s])]) (fun _ => AV.tup []) :=
  row_own1 Go.Proofs.encStr (fun _ => rfl) Av4 BY7
    (fun blk off cap zs w h1 h2 h3 => Any.slices_Sort_string Tryz.sortStrs blk off cap zs w h1 h2 h3) (fun p cap w => Any.slices_Sort_string_none Tryz.sortStrs p cap w) v l hl
theorem BD9 {l : List Str} {i j : Nat} {s : Str} (h : l[i]? = some s) (hj : j = i * 1) : ((l.map fun s => [AV.str s]).flatten)[j]? = some (AV.str s) := by
  rw [hj, Nat.mul_one];have e : (l.map fun s => [AV.str s]).flatten = l.map AV.str := by
    clear h;induction l with
    | nil => rfl
    | cons x l ih => simp [ih]
  rw [e, X2, h]; rfl
theorem CD2 (v : Value) (l : List Str) (hl : l.length ≤ 4194304) : M1 296 [AV.is v] [.arr v 9 1 (l.map fun s => [AV.str s])]
   (fun _ : Value => True) (fun v => [.arr v 9 1 ((cmpL l).map fun s => [AV.str s])]) (fun v => AV.is v) := by
 refine C8 Tryz.func296 rfl Tryz.ntmps296 rfl ?_;refine R2 ?_;refine A1 rfl (G1 rfl I9) ?_;refine R8 ?_;refine A3 ?_ ?_
 ·intro h8;have k8 := C5 h8;have hall : cmpL l = l := by (unfold cmpL; rw [BH2 (K5 _) (fun i h1 h2 => by omega), AJ5])
  refine R6 ?_;exact I4 [0] v (trivial) rfl qz72 (M4 rfl (A6 rfl qz9))
 intro h8;have k8 := B9 h8;refine R7 ?_;refine F2 [(0, _)] _ (fun (k : Nat) => (1 ≤ k ∧ k ≤ l.length) ∧ ∀ i, 1 ≤ i → i < k → l[i]? ≠ l[i - 1]?) (fun k => []) (fun k => [(3, AV.int k)]) (fun k => l.length - k) (1) ?_ (G3 A8) ?_
 ·exact ⟨⟨K5 _, by omega⟩, fun i h1 h2 => by omega⟩
 intro k hinv;refine R8 ?_;refine A3 ?_ ?_
 ·intro h13;have k13 := C5 h13;have hlt : k < l.length := by omega
  obtain ⟨x, hx⟩ := B4 hlt;obtain ⟨y, hy⟩ := B4 (show k - 1 < l.length by omega);refine R7 ?_;refine C0 rfl rfl (H6 0 rfl E3 I2 (A0 rfl) rfl (A0 rfl) qz2 qz2) ?_;refine C0 rfl rfl (AF6 0 rfl (A0 rfl) rfl j4 (BD9 hx qz8)) ?_;refine R3 ?_;refine C0 rfl rfl (H6 0 rfl E3 I2 (A0 rfl) rfl (A0 rfl) qz2 qz2) ?_;refine C0 rfl rfl (AF6 0 rfl (A0 rfl) rfl j4 (BD9 hy qz8)) ?_;refine R2 ?_;refine A3 ?_ ?_
  ·intro h25;have hxy : l[k]? = l[k - 1]? := by (rw [hx, hy]; have h9 := h25; simp at h9; rw [h9])
   have hinv0 := hinv;refine R4 ?_;refine A1 rfl (Bf6 0 rfl E3 I2 (A0 rfl) rfl (A0 rfl) qz2 qz2) ?_;refine R8 ?_;refine W7 [(0, _), (4, _), (10, _), (11, _), (12, _), (13, _), (16, _), (17, _), (18, _), (19, _), (20, _), (21, _), (22, _), (23, _), (24, _), (25, _), (26, _), (27, _), (28, _)] _ (fun (i : Nat) (j : Nat) (m : List Str) => 1 ≤ j ∧ k + j ≤ l.length ∧ i + 1 ≤ k + j ∧ m.length = l.length ∧ m.take i = AK7 l (k + j) ∧ m.drop (k + j - 1) = l.drop (k + j - 1)) (fun i j m => [.arr v 9 1 (m.map fun s => [AV.str s])]) (fun i j m => [(3, AV.int i), (5, AV.int j)]) (fun i j m => l.length - (k + j)) (k) (1) (l) ?_ (K1 C1 A8) ?_
   ·exact ⟨K5 _, by omega, by omega, rfl, by rw [CH9 qz8 hxy, BH2 qz8 hinv0.2], rfl⟩
   intro i j m hinv;refine R5 ?_;refine A1 rfl (w_tlen 0 rfl E3 (A0 rfl) rfl) ?_;refine R2 ?_;refine A3 ?_ ?_
   ·intro h32;have k32 := C5 h32;have hlt1 : k + j < l.length := by omega
    obtain ⟨x1, hx1⟩ := B4 hlt1;obtain ⟨y1, hy1⟩ := B4 (show k + j - 1 < l.length by omega);have hmx := BY3 hinv.2.2.2.2.2 hx1 qz8;have hmy := BY3 hinv.2.2.2.2.2 hy1 qz8;refine R7 ?_;refine C0 rfl rfl (CW5 0 rfl E3 I2 (A0 rfl) rfl (A0 rfl) qz8 AB7) ?_;refine C0 rfl rfl (AF6 0 rfl (A0 rfl) rfl j4 (BD9 hmx (by rw [show ((k : Int).toNat + (j : Int).toNat) = k + j by omega]))) ?_;refine R3 ?_;refine C0 rfl rfl (CW5 0 rfl E3 I2 (A0 rfl) rfl (A0 rfl) qz8 AB7) ?_;refine C0 rfl rfl (AF6 0 rfl (A0 rfl) rfl j4 (BD9 hmy (by rw [show ((k : Int).toNat + ((j : Int) - 1).toNat) = k + j - 1 by omega]))) ?_;refine R2 ?_;refine A3 ?_ ?_
    ·intro h44;refine R6 ?_;refine A1 rfl (CW5 0 rfl E3 I2 (A0 rfl) rfl (A0 rfl) qz8 AB7) ?_;refine A1 rfl (AF6 0 rfl (A0 rfl) rfl j4 (BD9 hmx (by rw [show ((k : Int).toNat + (j : Int).toNat) = k + j by omega]))) ?_;refine A1 rfl (H6 0 rfl E3 I2 (A0 rfl) rfl (A0 rfl) qz8 AB7) ?_;refine j7 0 rfl rfl rfl (A0 rfl) (A0 rfl) (q8 _) rfl I2 rfl Be8 ?_;refine R11 ?_;refine S7 i j m (i + 1) (j + 1) (m.set i x1) ?_ ?_ (K1 (by first | exact C3 (fun z => [Own.arr v 9 1 z]) (AB0).symm | rfl) A8)
     ·exact cmp_keep hinv qz8 hx1 hy1 (by simpa using h44)
     omega
    intro h44;refine R6 ?_;refine S7 i j m (i) (j + 1) (m) ?_ ?_ (K1 (by first | exact C3 (fun z => [Own.arr v 9 1 z]) (AB0).symm | rfl) A8)
    ·exact cmp_skip hinv qz8 hx1 hy1 (by simpa using h44)
    omega
   intro h32;have k32 := B9 h32;have hge : k + j = l.length := by omega
   refine R5 ?_;refine A1 rfl (Bf6 0 rfl E3 I2 (A0 rfl) rfl (A0 rfl) qz2 qz2) ?_;refine CH0 0 rfl rfl rfl E3 Tryz.zeroValue9 rfl rfl F1 (A0 rfl) rfl Be8 ?_;refine R5 ?_;refine CV4 0 rfl rfl rfl rfl E3 I2 (A0 rfl) rfl (A0 rfl) qz8 (by simp only [A7, H3, F4, AT9]; omega) ?_;intro v59_1;refine R3 ?_;exact I4 [0] v59_1 (trivial) rfl qz72 (M4 rfl (A6 rfl qz9))
  intro h25;refine R6 ?_;refine G4 k (k + 1) ?_ ?_ (G3 A8)
  ·exact ⟨⟨by omega, by omega⟩, fun i h1 h2 => if e : i = k then (by subst e; rw [hx, hy]; intro e; injection e with e; subst e; simp at h25) else hinv.2 i h1 qz8⟩
  omega
 intro h13;have k13 := B9 h13;have hall : cmpL l = l := by (unfold cmpL; rw [BH2 (K5 _) (fun i h1 h2 => hinv.2 i h1 qz8), AJ5])
 refine R7 ?_;exact I4 [0] v (trivial) rfl qz72 (M4 rfl (A6 rfl qz9))
end Go.PQ
namespace Go.PQ
open Go.Proofs
open Go Go.AV Go.M
attribute [local irreducible] OpW OpA OpS AWP J6 L3 K7 OpE K2 H9 K6 Le Ev F7 M7 Int.tmod Int.tdiv IntKind.wrap
theorem CO1 (w : A4) (os : List A4) (rs : List Str) (hs : os.length ≤ 4611686018427387903) (ha : adj N3 os = true) : E1 318 [AV.agg w.cs, AV.eptr [AV.list 3 (os.map A4.cs)], AV.eptr [strs rs]] (AV.bool (AN7 os w.Key || BE9 rs w.Key)) := by
  have hwh := DB6 ha w.Key;refine B3 Tryz.func318 rfl Tryz.ntmps318 rfl ?_;refine R3 ?_;intro b3;refine R7 ?_;refine A1 rfl (A5 rfl Tryz.call20 rfl (As2 _ _ qz8) (A2 (A0 rfl) (A2 (A0 rfl) B0))) ?_;refine R13 ?_;refine Q7 rfl (fun hc => A5 rfl Tryz.call319 rfl (BW4 _ _) (A2 (A9 rfl hc) (A2 (A9 rfl hc) B0))) ?_;refine R4 ?_;exact D6 rfl (A6 rfl (by exact C3 AV.bool (by rw [hwh]; rfl)))
theorem Ba5 (ws : List A4) (rs : List Str) (os : List A4) (hs : os.length ≤ 4611686018427387903) (ha : adj N3 os = true) : E1 294 [AV.list 3 (ws.map A4.cs), strs rs, AV.list 3 (os.map A4.cs)] (AV.bool (BO4 ws rs os)) := by
  refine B3 Tryz.func294 rfl Tryz.ntmps294 rfl ?_;refine R2 ?_;refine Bf0 rfl rfl rfl rfl (A0 rfl) (Bl4 _ _) ?_;intro b4;refine Bf0 rfl rfl rfl rfl (A0 rfl) (Bl4 _ _) ?_;intro b5;refine R5 ?_;refine A1 rfl (BG6 rfl rfl F0) ?_;refine A1 rfl (l8 rfl Tryz.call48 rfl (AT0 _ _ _ Ab8) (U0 _) (P1 (evb (A0 rfl)) (P1 (AQ4 (CU9 0 1 (A0 rfl) rfl rfl) (Ac1 Tryz.call318 (fun w (_ : True) => CO1 w _ _ W1 AC4))) m8))) ?_;refine R3 ?_;exact D6 rfl (A6 rfl qz9)
theorem Ct9 (h k : D1) (h1 : h.Writes.length ≤ 4611686018427387903) (k1 : k.Writes.length ≤ 4611686018427387903) (ha : adj N3 h.Writes = true) (ka : adj N3 k.Writes = true) : E1 251 [AV.agg h.cs, AV.agg k.cs] (AV.bool (Ap3 h k)) := by
  refine B3 Tryz.func251 rfl Tryz.ntmps251 rfl ?_;refine R3 ?_;intro b2;refine R1 ?_;intro b3;refine R10 ?_;refine A1 rfl (A5 rfl Tryz.call294 rfl (Ba5 _ _ _ W1 AC4) (A2 (A0 rfl) (A2 (A0 rfl) (A2 (A0 rfl) B0)))) ?_;refine R7 ?_;refine Q7 rfl (fun hc => A5 rfl Tryz.call294 rfl (Ba5 _ _ _ W1 AC4) (A2 (A9 rfl hc) (A2 (A9 rfl hc) (A2 (A9 rfl hc) B0)))) ?_;refine R4 ?_;exact D6 rfl (A6 rfl qz9)
theorem rec_spec (h : D1) : E1 285 [AV.agg h.cs] (AV.agg (AT4 h).cs) := by
  refine B3 Tryz.func285 rfl Tryz.ntmps285 rfl ?_;refine R3 ?_;intro b1;refine R1 ?_;intro b2;refine R17 ?_;exact D6 rfl (F3 (ys := _) 0 rfl rfl AV1 AD7 rfl)
theorem CY6 {l : List B1} {h : List D1} (a b : Nat) (hl : C7 B1.size l ≤ 1048576) (hh : C7 D1.size h ≤ 1048576) : (n2 (l.take a) ++ Q3 (hWs (h.take b))).length ≤ 2097152 := by
  have h1 := L9 (f := B1.size) (l := l);have h2 := CD1 (l := h.take b);have h3 := CO0 (f := D1.size) (l := h) b;unfold n2 Q3;simp only [H3, A7, F4];omega
theorem DC1 (s : D9) (held : List D1) (hg : m5 s.Cells = true) (hs : s.size ≤ 1048576) (hh : C7 D1.size held ≤ 1048576) : E1 252 [AV.agg s.cs, AV.list 5 (held.map D1.cs)] (AV.bool (decide (held.length ≤ 12) && room s.Cells (hWs held))) := by
 obtain ⟨hs1, hs2, hs3, hs4, hs5⟩ := AA3 hs;have hca := (W6 hg).2.1;have hhl := L9 (f := D1.size) (l := held);obtain ⟨p, hp⟩ : ∃ p : A4 → Bool, p = fun w => !Ab2 s.Cells w.Key := ⟨_, rfl⟩;refine B3 Tryz.func252 rfl Tryz.ntmps252 rfl ?_;refine R3 ?_;intro b2;refine R4 ?_;refine P6 rfl rfl rfl rfl E3 I2 ?_;intro v14;refine R11 ?_;refine W7 [(1, _), (2, _), (4, _), (16, _), (17, _)] _ (fun (i : Nat) (v : Value) (ks : List Str) => i ≤ s.Cells.length ∧ ks = n2 (s.Cells.take i)) (fun i v ks => [.arr v 9 1 (ks.map fun k => [AV.str k])]) (fun i v ks => [(5, AV.is v), (18, AV.int i)]) (fun i v ks => s.Cells.length - i) (0) (v14) ([]) ?_ (K1 C1 A8) ?_
 ·exact ⟨E2 _, rfl⟩
 intro i v ks hinv;refine R5 ?_;refine A3 ?_ ?_
 ·intro h19;have k19 := C5 h19;have hlt : i < s.Cells.length := by omega
  obtain ⟨c, hx⟩ := B4 hlt;have hkl : ks.length ≤ 1048576 := by rw [hinv.2]; unfold n2; rw [A7, F4]; omega
  refine R5 ?_;refine A1 rfl (D3 rfl D2 I1 (A0 rfl) (A0 rfl) hx qz2) ?_;refine R2 ?_;intro b7;refine R7 ?_;refine H4 (by' := 16) 1 rfl rfl rfl rfl E3 Tryz.type9 rfl rfl rfl rfl rfl rfl (A0 rfl) (A0 rfl) rfl qz2 ?_;intro v26_1;refine R6 ?_;refine S7 i v ks (i + 1) (v26_1) (ks ++ [c.Key]) ?_ ?_ (E5 1 Ay6 A8)
  ·exact ⟨by omega, by rw [hinv.2]; unfold n2; rw [T5, hx, X1]; rfl⟩
  omega
 intro h19;have k19 := B9 h19;have hge : s.Cells.length ≤ i := by omega
 have hks : ks = n2 s.Cells := by rw [hinv.2, P8 hge]
 refine R9 ?_;refine W7 [(1, _), (2, _), (28, _), (29, _)] _ (fun (q : Nat) (v1 : Value) (k1 : List Str) => q ≤ held.length ∧ k1 = n2 s.Cells ++ Q3 (hWs (held.take q)) ∧ (hWs held).all p = (hWs (held.drop q)).all p) (fun q v1 k1 => [.arr v1 9 1 (k1.map fun k => [AV.str k])]) (fun q v1 k1 => [(5, AV.is v1), (30, AV.int q)]) (fun q v1 k1 => held.length - q) (0) (v) (ks) ?_ (K1 C1 A8) ?_
 ·exact ⟨E2 _, by rw [hks, List.take_zero]; simp [hWs, Q3], rfl⟩
 intro q v1 k1 hinv;refine R5 ?_;refine A3 ?_ ?_
 ·intro h31;have k31 := C5 h31;have hlt : q < held.length := by omega
  obtain ⟨h, hh0⟩ := B4 hlt;obtain ⟨g1, g2, g3, g4, g5⟩ := AI6 hh hh0;have hinv1 := hinv;refine R5 ?_;refine A1 rfl (D3 rfl F5 M2 (A0 rfl) (A0 rfl) hh0 qz2) ?_;refine R2 ?_;intro b9;refine R10 ?_;refine AWP.le (B8 [1] rfl) ?_;refine W7 [(1, _), (2, _), (9, _), (28, _), (29, _), (30, _), (31, _), (32, _), (33, _), (34, _), (35, _), (36, _)] _ (fun (r : Nat) (v2 : Value) (k2 : List Str) => r ≤ h.Writes.length ∧ k2 = k1 ++ Q3 (h.Writes.take r) ∧ h.Writes.all p = (h.Writes.drop r).all p) (fun r v2 k2 => [.arr v2 9 1 (k2.map fun k => [AV.str k])]) (fun r v2 k2 => [(5, AV.is v2), (37, AV.int r)]) (fun r v2 k2 => h.Writes.length - r) (0) (v1) (k1) ?_ (K1 C1 A8) ?_
  ·exact ⟨E2 _, by simp [Q3], rfl⟩
  intro r v2 k2 hinv;refine R5 ?_;refine A3 ?_ ?_
  ·intro h38;have k38 := C5 h38;have hlt2 : r < h.Writes.length := by omega
   obtain ⟨w, hw⟩ := B4 hlt2;obtain ⟨c, hc0⟩ := BB6 s.Cells (AC9 s.Cells w.Key);have hc1 : Ap2 s.Cells w.Key = true → s.Cells[AC9 s.Cells w.Key]? = some c := fun e => by (obtain ⟨y, hy, _⟩ := Ar7.1 e; exact hc0 (E9.1 hy).1)
   have hfu := DB7 hca hc1;have hk2l : k2.length ≤ 3145728 := by rw [hinv.2.1, hinv1.2.1]; have := CY6 s.Cells.length q hs1 hh; rw [AJ5] at this; unfold Q3 at this ⊢; simp only [H3, A7, F4] at this ⊢; omega
   refine R5 ?_;refine A1 rfl (D3 rfl D7 H0 (A0 rfl) (A0 rfl) hw qz2) ?_;refine R2 ?_;intro b11;refine R9 ?_;refine A1 rfl (A5 rfl Tryz.call288 rfl (Ax6 s.Cells w.Key qz8) F0) ?_;refine R13 ?_;refine L6 rfl (fun hc => AT8 rfl D2 I1 (A9 rfl hc) (A9 rfl hc) (by have := (E9.1 (hc1 hc)).1; omega) (by rw [l4, X2, hc1 hc]; rfl)) ?_;refine R6 ?_;refine A3 ?_ ?_
   ·intro h59;have hpw : p w = false := by rw [hp]; simp only [AD5]; rw [hfu]; simpa using h59
    have hro : room s.Cells (hWs held) = false := by (unfold room; rw [show ((hWs held).all fun w => !Ab2 s.Cells w.Key) = false from by rw [← hp, hinv1.2.2, I8 hh0, As0, List.all_append, hinv.2.2, I8 hw, p8, hpw]; rfl]; rfl)
    refine R5 ?_;exact D6 rfl (A6 rfl qz66)
   intro h59;have hpw : p w = true := by rw [hp]; simp only [i6]; rw [hfu]; simpa using h59
   refine R6 ?_;refine H4 (by' := 16) 1 rfl rfl rfl rfl E3 Tryz.type9 rfl rfl rfl rfl rfl rfl (A0 rfl) (A0 rfl) rfl qz2 ?_;intro v64_2;refine R6 ?_;refine S7 r v2 k2 (r + 1) (v64_2) (k2 ++ [w.Key]) ?_ ?_ (Le.trans (B8 [0, 0] rfl) (E5 1 Ay6 A8))
   ·exact ⟨by omega, by rw [hinv.2.1]; unfold Q3; rw [T5, hw, X1, f4]; rfl, by rw [hinv.2.2, I8 hw, p8, hpw]; rfl⟩
   omega
  intro h38;have k38 := B9 h38;have hge2 : h.Writes.length ≤ r := by omega
  have hk2 : k2 = k1 ++ Q3 h.Writes := by rw [hinv.2.1, P8 hge2]
  have hal : h.Writes.all p = true := by rw [hinv.2.2, k6 hge2]; rfl
  refine R5 ?_;refine S7 q v1 k1 (q + 1) (v2) (k2) ?_ ?_ (Le.trans (B8 [1, 0] rfl) (E5 1 C1 A8))
  ·exact ⟨by omega, by rw [hk2, hinv1.2.1, CY3 hh0]; simp [Q3], by rw [hinv1.2.2, I8 hh0, As0, List.all_append, hal]; rfl⟩
  omega
 intro h31;have k31 := B9 h31;have hge : held.length ≤ q := by omega
 have hk9 : k1 = n2 s.Cells ++ Q3 (hWs held) := by rw [hinv.2.1, P8 hge]
 have hal9 : (hWs held).all p = true := by rw [hinv.2.2, k6 hge]; rfl
 have hln := CY6 s.Cells.length held.length hs1 hh;rw [AJ5, AJ5, ← hk9] at hln;have hre : room s.Cells (hWs held) = decide ((cmpL (Av4 k1)).length ≤ 24) := by (unfold room Ai8 Ah5; rw [← hp, hal9, ← hk9]; rfl)
 refine R4 ?_;refine F8 [0] rfl rfl rfl rfl Tryz.call295 rfl (CY5 _ k1 qz8) (A2 (A0 rfl) B0) rfl ?_;intro x68 ok68;refine R8 ?_;refine Ac7 rfl rfl (V1 rfl rfl rfl) ?_ ?_
 ·intro gh74;refine F8 [0] rfl rfl rfl rfl Tryz.call296 rfl (CD2 _ (Av4 k1) (by rw [BY7]; omega)) (A2 (A9 rfl gh74) B0) rfl ?_;intro x74 ok74;refine R6 ?_;exact D6 rfl (A6 rfl qz66)
 intro gh74;refine Ac7 rfl rfl (V1 rfl rfl rfl) (fun hq => by rw [gh74] at hq; cases hq) (fun _ => ?_);refine Ac7 rfl rfl (V1 rfl rfl rfl) (fun hq => by rw [gh74] at hq; cases hq) (fun _ => ?_);refine A1 rfl (CS6 rfl (A0 rfl) (Bf8 (x := AV.bool false) gh74)) ?_;refine R3 ?_;exact D6 rfl (A6 rfl qz66)
theorem CD3 (h : D1) (n : Int) : E1 248 [AV.agg h.cs, AV.int n] (AV.int (hCmp n h)) := by
  refine B3 Tryz.func248 rfl Tryz.ntmps248 rfl ?_;refine R3 ?_;intro b2;refine R7 ?_;refine A1 rfl (A5 rfl Tryz.call243 rfl (Bj0 _ _) F0) ?_;refine R3 ?_;exact D6 rfl (A6 rfl qz9)
theorem CD4 (h : N1) (n : Int) : E1 242 [AV.agg h.cs, AV.int n] (AV.int (tCmp n h)) := by
  refine B3 Tryz.func242 rfl Tryz.ntmps242 rfl ?_;refine R3 ?_;intro b2;refine R7 ?_;refine A1 rfl (A5 rfl Tryz.call243 rfl (Bj0 _ _) F0) ?_;refine R3 ?_;exact D6 rfl (A6 rfl qz9)
theorem CY7 (f : Int) (c t : List (List AV)) (l : List D1) (n : Int) (hs : l.length ≤ 1048576) : E1 195 [AV.agg [AV.int f, AV.list 2 c, AV.list 5 (l.map D1.cs), AV.list 3 t], AV.int n] (AV.tup [AV.int (Aa8 l n), AV.bool (At2 l n)]) := by
  refine B3 Tryz.func195 rfl Tryz.ntmps195 rfl ?_;refine R3 ?_;intro b2;refine R8 ?_;refine A1 rfl (A5 rfl Tryz.call247 rfl (BN1 _ _ _ Ab8 _ qz8) (A2 (A0 rfl) (A2 (A0 rfl) (A2 (Bf3 Tryz.call248 (fun h n (_ : True) => CD3 h n)) B0)))) ?_;refine R6 ?_;exact f7 rfl F1 (I3 (A6 rfl qz9) (I3 (A6 rfl qz9) AB5))
theorem Ad7 (f : Int) (c h : List (List AV)) (l : List N1) (n : Int) (hs : l.length ≤ 1048576) : E1 193 [AV.agg [AV.int f, AV.list 2 c, AV.list 5 h, AV.list 3 (l.map N1.cs)], AV.int n] (AV.tup [AV.int (Ay3 l n), AV.bool (tHas l n)]) := by
  refine B3 Tryz.func193 rfl Tryz.ntmps193 rfl ?_;refine R3 ?_;intro b2;refine R8 ?_;refine A1 rfl (A5 rfl Tryz.call241 rfl (BN2 _ _ _ Ab8 _ qz8) (A2 (A0 rfl) (A2 (A0 rfl) (A2 (Bf3 Tryz.call242 (fun h n (_ : True) => CD4 h n)) B0)))) ?_;refine R6 ?_;exact f7 rfl F1 (I3 (A6 rfl qz9) (I3 (A6 rfl qz9) AB5))
theorem BV8 (s : D9) (n : Int) (hs : s.Held.length ≤ 1048576) : E1 195 [AV.agg s.cs, AV.int n] (AV.tup [AV.int (Aa8 s.Held n), AV.bool (At2 s.Held n)]) := CY7 _ _ _ s.Held n hs
theorem CO2 (s : D9) (n : Int) (hs : s.Told.length ≤ 1048576) : E1 193 [AV.agg s.cs, AV.int n] (AV.tup [AV.int (Ay3 s.Told n), AV.bool (tHas s.Told n)]) := Ad7 _ _ _ s.Told n hs
end Go.PQ
namespace Go.PQ
open Go.Proofs
open Go Go.AV Go.M
attribute [local irreducible] OpW OpA OpS AWP J6 L3 K7 OpE K2 H9 K6 Le Ev F7
def M5.ow (c : M5) (x : Value × Value) : List Own := [.arr x.1 9 1 (c.Reads.map (fun x => [AV.str x])), .arr x.2 67 3 (c.Writes.map A4.cs)]
theorem M5.lc (c : M5) (x : Value × Value) : AC1 (M5.ow c x) (M5.ocs c x) c.cs := (D5 I0 (D5 I0 (D5 I0 (D5 I0 (D5 (K0 (C2 (i := 0) rfl) F6) (D5 (K0 (C2 (i := 1) rfl) F6) (D5 I0 d5)))))))
def AE7.ow (c : AE7) (x : Value × Value) : List Own := [.arr x.1 9 1 (c.Cuts.map (fun x => [AV.str x])), .arr x.2 3 1 (c.Groups.map (fun x => [AV.int x]))]
theorem AE7.lc (c : AE7) (x : Value × Value) : AC1 (AE7.ow c x) (AE7.ocs c x) c.cs := (D5 I0 (D5 (K0 (C2 (i := 0) rfl) F6) (D5 (K0 (C2 (i := 1) rfl) F6) d5)))
end Go.PQ
namespace Go.AV
section
variable {T X : Type} {cs : T → List AV} {ocs : T → X → List AV} {ow : T → X → List Own}
theorem DC2 {l : List T} {xs : List X} {i : Nat} {p : T} {x : X} (hi : i ≤ l.length) (h : xs.length = l.length) : (J7 ocs l xs).take i ++ ocs p x :: (J7 ocs l xs).drop i = J7 ocs (l.take i ++ p :: l.drop i) (xs.take i ++ x :: xs.drop i) := by
  unfold J7;rw [List.zipWith_append (by rw [F4, F4]; omega), List.zipWith_cons_cons, List.take_zipWith, List.drop_zipWith]
theorem nin_ins {l : List T} {xs : List X} {i : Nat} {p : T} {x : X} (hi : i ≤ l.length) (h : xs.length = l.length) : (ow p x ++ nin ow l xs).Perm (nin ow (l.take i ++ p :: l.drop i) (xs.take i ++ x :: xs.drop i)) := by
  have e : nin ow l xs = nin ow (l.take i) (xs.take i) ++ nin ow (l.drop i) (xs.drop i) := by
    unfold nin;rw [← AU1, ← List.zipWith_append (by rw [F4, F4]; omega), Ab0, Ab0]
  have e2 : nin ow (l.take i ++ p :: l.drop i) (xs.take i ++ x :: xs.drop i) = nin ow (l.take i) (xs.take i) ++ (ow p x ++ nin ow (l.drop i) (xs.drop i)) := by
    unfold nin;rw [List.zipWith_append (by rw [F4, F4]; omega), List.zipWith_cons_cons, AU1, AJ4]
  rw [e, e2, ← f4, ← f4];exact List.Perm.append_right _ AJ7
theorem CY8 {X : Type} {xs : List X} {i : Nat} {x : X} (hi : i ≤ xs.length) : (xs.take i ++ x :: xs.drop i).length = xs.length + 1 := by
  rw [H3, H8, F4, p7]; omega
end
end Go.AV
namespace Go.PQ
open Go.Proofs
open Go Go.AV Go.M
attribute [local irreducible] OpW OpA OpS AWP J6 L3 K7 OpE K2 H9 K6 Le Ev F7 M7
def B1.ow (c : B1) (x : Value) : List Own := [.arr x 64 3 (c.Vers.map O3.cs)]
theorem B1.lcM {own : List Own} (c : B1) (x : Value) (h : ∀ o ∈ B1.ow c x, o ∈ own) : AC1 own (B1.ocs c x) c.cs := D5 I0 (D5 (K0 (h _ (C2 (i := 0) rfl)) F6) d5)
theorem Cu0 {l : List B1} {xs : List Value} {p : B1} {x : Value} {i : Nat} (hp : l[i]? = some p) (h : xs.length = i) : J7 B1.ocs (l.take i) xs ++ B1.ocs p x :: (l.drop (i + 1)).map B1.cs = J7 B1.ocs (l.take (i + 1)) (xs ++ [x]) ++ (l.drop (i + 1)).map B1.cs := by
  rw [← AQ8 hp h, f4]; rfl
theorem CD5 (v vv : Value) (l : List (List AV)) (x : List AV) (hx2 : x.length = 2) (hl2 : ∀ r ∈ l, r.length = 2) (i : Nat) (hi : i ≤ l.length) (hl : l.length ≤ 4194304) : M1 289 [AV.is v, AV.int i, AV.is vv] [.arr v 61 2 (l.map id), .arr vv 61 2 [id x]] (fun _ : Value => True) (fun v => [.arr v 61 2 ((l.take i ++ x :: l.drop i).map id)]) (fun v => AV.is v) := by
 have hn : (l.map id).length = l.length := A7 _;have h1 : ([id x] : List (List AV)).length = 1 := rfl;have e28 : ((l.map id).length : Int) + (([id x] : List (List AV)).length : Int) = ((l.length + 1 : Nat) : Int) := by rw [hn, h1]; rfl
 have e49 : (i : Int) + (([id x] : List (List AV)).length : Int) = ((i + 1 : Nat) : Int) := by rw [h1]; rfl
 have e39 : ((l.length + 1 : Nat) : Int) - (i : Int) = ((l.length + 1 - i : Nat) : Int) := by omega
 refine C8 Tryz.func289 rfl Tryz.ntmps289 rfl ?_;refine Ak2 0 rfl ?_ ?_
 ·intro hv hes; subst hv;have hl0 : l = [] := by cases l with | nil => rfl | cons y l => (simp at hes)
  subst hl0;have hi0 : i = 0 := by simpa using hi
  subst hi0;refine Ak2 1 rfl (fun _ h => by cases h) ?_;intro gv cv hvv _ _;subst hvv;refine R2 ?_;refine A1 rfl (G1 rfl I9) ?_;refine R5 ?_;refine A1 rfl (Bf6 0 rfl D2 I1 (A0 rfl) rfl (A0 rfl) qz2 qz2) ?_;refine R4 ?_;refine A1 rfl (Am7 rfl D2 (A0 rfl)) ?_;refine R8 ?_;refine A3 ?_ ?_
  ·intro h16;have k16 := J9 h16;(try simp only [A7] at k16);rw [h1] at k16; omega
  intro h16;have k16 := J5 h16;(try simp only [A7] at k16);refine R14 ?_;refine A3 ?_ ?_
  ·intro h22;have k22 := J9 h22;(try simp only [A7] at k22);refine R4 ?_;refine Az6 (by' := 40) 0 rfl rfl rfl rfl D2 Tryz.type61 rfl rfl rfl rfl rfl rfl (A0 rfl) (AX5 1 rfl (A0 rfl)) Z1 rfl (by simp only [A7, H8, Q1]; omega) ?_;intro v25;refine R3 ?_;exact I4 [0] v25 (trivial) rfl CS1 (M4 rfl (A6 rfl BF7))
  intro h22;have k22 := J5 h22;(try simp only [A7] at k22);exact absurd rfl k22
 intro g cap hv hlc hcm; subst hv;refine Ak2 1 rfl (fun _ h => by cases h) ?_;intro gv cv hvv _ _;subst hvv;refine R2 ?_;refine A1 rfl (G1 rfl I9) ?_;refine R5 ?_;refine A1 rfl (AQ6 rfl D2 I1 (A0 rfl) (A0 rfl) qz2 qz2) ?_;refine R4 ?_;refine A1 rfl (Am7 rfl D2 (A0 rfl)) ?_;refine R8 ?_;refine A3 ?_ ?_
 ·intro h16;have k16 := J9 h16;(try simp only [A7] at k16);rw [h1] at k16; omega
 intro h16;have k16 := J5 h16;(try simp only [A7] at k16);refine R4 ?_;refine A1 rfl (Am7 rfl D2 (A0 rfl)) ?_;refine R9 ?_;refine A3 ?_ ?_
 ·intro h22;have k22 := J9 h22;(try simp only [A7] at k22);refine R4 ?_;refine Az6 (by' := 40) 0 rfl rfl rfl rfl D2 Tryz.type61 rfl rfl rfl rfl rfl rfl (A0 rfl) (AX5 1 rfl (A0 rfl)) Z1 rfl (by simp only [A7, H8, Q1]; omega) ?_;intro v25;refine R3 ?_;exact I4 [0] v25 (trivial) rfl CS1 (M4 rfl (A6 rfl BF7))
 intro h22;have k22 := J5 h22;(try simp only [A7] at k22);refine R7 ?_;rw [e28];refine R1 ?_;refine A1 rfl (w_vcap rfl D2 (A0 rfl)) ?_;refine R2 ?_;refine A3 ?_ ?_
 ·intro h31;have k31 := C5 h31;refine R4 ?_;refine A1 rfl (Br3 rfl D2 I1 (A0 rfl) (A0 rfl) qz8 (by rw [hn] at hlc; omega)) ?_;refine R3 ?_;rw [e28];refine R2 ?_;rw [e39, l4];refine Br4 (by' := 40) (j := i) (m := l.length + 1 - i) 0 rfl rfl rfl rfl D2 o6 Tryz.type61 rfl rfl rfl rfl rfl rfl (A0 rfl) (A0 rfl) rfl (by rw [hn]; exact hi) qz8 qz8 qz8 qz8 ?_;intro g2 cap2 hcap2;refine R6 ?_;refine A1 rfl (AQ6 rfl D2 I1 (A0 rfl) (A0 rfl) qz2 qz2) ?_;refine R1 ?_;rw [l4];refine BB5 (k := i) 0 rfl rfl rfl rfl D2 Tryz.type61 rfl (A0 rfl) (AX5 2 rfl (A0 rfl)) rfl (by rw [h1]; omega) (by rw [h1]; omega) hcap2 Z1 ?_;refine R2 ?_;refine M6 8 D4 D4 rfl ?_;refine R4 ?_;rw [e49];refine C0 rfl rfl (AQ6 rfl D2 I1 (A0 rfl) (A0 rfl) qz2 qz2) ?_;refine R2 ?_;refine C0 rfl rfl (AQ6 rfl D2 I1 (A0 rfl) (A0 rfl) qz2 qz2) ?_;refine R1 ?_;simp only [l4];refine BB5 (k := i + 1) 0 rfl rfl rfl rfl D2 Tryz.type61 rfl (A0 rfl) (CB6 1 rfl (A0 rfl)) rfl (by rw [p7, hn]; omega) (by rw [p7, hn]; omega) hcap2 qz183 ?_;refine R7 ?_;exact I4 [0] (slv g2 (i + (l.length + 1 - i)) cap2) (trivial) rfl CS1 (M4 rfl (A6 rfl BF7))
 intro h31;have k31 := B9 h31;refine R7 ?_;rw [e28];refine A1 rfl (Br3 rfl D2 I1 (A0 rfl) (A0 rfl) qz2 qz2) ?_;rw [l4];refine R10 ?_;rw [e49];refine A1 rfl (AQ6 rfl D2 I1 (A0 rfl) (A0 rfl) qz2 qz2) ?_;rw [l4];refine A1 rfl (Bi9 (tb := 4) 1 0 rfl Tryz.func314 D4 D4 D4 D4 D2 I1 (A0 rfl) (A0 rfl) rfl rfl rfl qz8 rfl) ?_;refine R2 ?_;refine A3 ?_ ?_
 ·intro h68;refine R1 ?_;refine M6 8 D4 D4 rfl ?_;refine R4 ?_;rw [e49];refine C0 rfl rfl (AQ6 rfl D2 I1 (A0 rfl) (A0 rfl) qz2 qz2) ?_;refine R2 ?_;refine C0 rfl rfl (AQ6 rfl D2 I1 (A0 rfl) (A0 rfl) qz2 qz2) ?_;refine R1 ?_;simp only [l4];refine CW0 (k := i) (len := (l.map id).length) 0 rfl rfl rfl rfl D2 Tryz.type61 rfl (by rw [hn]; exact A0 rfl) (by rw [hn]; exact A0 rfl) rfl qz8 qz8 ?_;intro j77;refine R5 ?_;refine A1 rfl (AQ6 rfl D2 I1 (A0 rfl) (A0 rfl) qz2 qz2) ?_;refine R1 ?_;rw [l4];refine BB5 (k := i) 0 rfl rfl rfl rfl D2 Tryz.type61 rfl (A0 rfl) (AX5 1 rfl (A0 rfl)) rfl (by rw [h1, hn]; omega) (by rw [h1]; omega) qz8 Z1 ?_;refine R7 ?_;exact I4 [0] (slv g ((l.map id).length + 1) cap) (trivial) rfl CS1 (M4 rfl (A6 rfl BF7))
 intro h68
 cases h68
theorem BV9 (l : List B1) (hs : C7 B1.size l ≤ 4194304) : M1 238 [AV.list 2 (l.map B1.cs)] [] (fun x : Value × List Value => x.2.length = l.length) (fun x => .arr x.1 61 2 (J7 B1.ocs l x.2) :: nin B1.ow l x.2) (fun x => AV.is x.1) := by
 have hl : l.length ≤ 4194304 := L8 L9 hs;refine C8 Tryz.func238 rfl Tryz.ntmps238 rfl ?_;refine R2 ?_;refine A1 rfl (G1 rfl I9) ?_;refine R4 ?_;refine F8 [] rfl rfl rfl rfl Tryz.call283 rfl (CC4 _ W1) (A2 (A0 rfl) B0) rfl ?_;intro x6 ok6;refine R10 ?_;refine J0 [(2, _), (3, _), (8, _)] [] (fun (i : Nat) (xs : List Value) => i ≤ l.length ∧ xs.length = i) (fun i xs => [.arr x6 61 2 (J7 B1.ocs (l.take i) xs ++ (l.drop i).map B1.cs)] ++ (nin B1.ow (l.take i) xs)) (fun i xs => [(9, AV.int i)]) (fun i xs => l.length - i) (0) ([]) ?_ (K1 C1 A8) ?_
 ·exact ⟨E2 _, rfl⟩
 intro i xs hinv;refine G0 (Q6 _) ?_;refine R5 ?_;refine A3 ?_ ?_
 ·intro h10;have k10 := C5 h10;have hlt : i < l.length := by omega
  obtain ⟨x, hx⟩ := B4 hlt;have hsx := AK4 (L8 (U6 hx) hs);rw [I8 hx, U8];refine R13 ?_;refine A1 rfl (H6 0 rfl D2 I1 (A0 rfl) rfl (A0 rfl) qz8 (by rw [H3, H8, W8 BF9, F4]; omega)) ?_;refine A1 rfl (L7 0 rfl V4 rfl n7 (A0 rfl) rfl rfl (AE5 (show (J7 B1.ocs (l.take i) xs).length = i by rw [W8 BF9, F4]; omega))) ?_;refine A1 rfl (N4 0 rfl (A0 rfl) rfl Tryz.isAgg59 (AE5 (show (J7 B1.ocs (l.take i) xs).length = i by rw [W8 BF9, F4]; omega)) rfl) ?_;refine F8 [] rfl rfl rfl rfl Tryz.call284 rfl (CN8 _ W1) (A2 (A0 rfl) B0) rfl ?_;intro x19 ok19;refine A1 rfl (H6 1 rfl D2 I1 (A0 rfl) rfl (A0 rfl) qz8 (by rw [H3, H8, W8 BF9, F4]; omega)) ?_;refine A1 rfl (L7 1 rfl V4 rfl n7 (A0 rfl) rfl rfl (AE5 (show (J7 B1.ocs (l.take i) xs).length = i by rw [W8 BF9, F4]; omega))) ?_;refine O7 0 rfl fun one_x19 => ?_;refine Af9 1 rfl rfl rfl (A0 rfl) (A0 rfl) (K4 one_x19) rfl n7 (show (J7 B1.ocs (l.take i) xs).length = i by rw [W8 BF9, F4]; omega) rfl ?_;refine R1 ?_;refine AWP.le (B8 [1, 0] rfl) ?_;refine AWP.le (S4 1 (t := nin B1.ow (l.take (i + 1)) (xs ++ [x19])) (AX6 (ow := B1.ow) (x := x19) hx hinv.2)) ?_;refine R4 ?_;refine G8 i xs (i + 1) (xs ++ [x19]) ?_ ?_ (K1 (Eq.trans (by exact C3 (fun z => Own.arr _ _ _ z :: _) (Cu0 hx hinv.2)) (Q6 _).symm) A8)
  ·exact ⟨by omega, by rw [H3, hinv.2]; rfl⟩
  omega
 intro h10;have k10 := B9 h10;have hge : i = l.length := by omega
 have hxs := hinv.2.trans hge;rw [show l.take i = l from P8 qz8, show l.drop i = [] from k6 qz8, List.map_nil, Q6];refine R7 ?_;exact H7 [0] 0 (nin B1.ow l xs) [] (x6, xs) (hxs) rfl (show List.Perm (nin B1.ow l xs) ((nin B1.ow l xs) ++ []) from B7) C1 (M4 rfl (A6 rfl qz9))
theorem CJ8 (l : List B1) (hs : C7 B1.size l ≤ 4194304) : M1 258 [AV.list 2 (l.map B1.cs)] [] (fun x : Value × List Value => x.2.length = l.length) (fun x => .arr x.1 61 2 (J7 B1.ocs l x.2) :: nin B1.ow l x.2) (fun x => AV.is x.1) := by
 have hl : l.length ≤ 4194304 := L8 L9 hs;refine C8 Tryz.func258 rfl Tryz.ntmps258 rfl ?_;refine R2 ?_;refine A1 rfl (G1 rfl I9) ?_;refine R3 ?_;refine c7 61 2 rfl rfl rfl rfl I9 ?_;intro v3;refine R9 ?_;refine W7 [(2, _), (6, _), (7, _)] [] (fun (i : Nat) (v : Value) (xs : List Value) => i ≤ l.length ∧ xs.length = i) (fun i v xs => [.arr v 61 2 (J7 B1.ocs (l.take i) xs)] ++ (nin B1.ow (l.take i) xs)) (fun i v xs => [(3, AV.is v), (8, AV.int i)]) (fun i v xs => l.length - i) (0) (v3) ([]) ?_ (K1 C1 A8) ?_
 ·exact ⟨E2 _, rfl⟩
 intro i v xs hinv;refine G0 (Q6 _) ?_;refine R5 ?_;refine A3 ?_ ?_
 ·intro h9;have k9 := C5 h9;have hlt : i < l.length := by omega
  obtain ⟨x, hx⟩ := B4 hlt;have hsx := AK4 (L8 (U6 hx) hs);refine R5 ?_;refine A1 rfl (D3 rfl D2 I1 (A0 rfl) (A0 rfl) hx qz2) ?_;refine R2 ?_;intro b5;refine R2 ?_;refine O8 _ [(0, false), (1, false), (2, false), (4, false), (5, false), (3, true), (6, true), (7, false), (8, false), (9, true)] D4 D4 rfl (S3 1) ?_;refine R5 ?_;refine T4 rfl rfl rfl (u7 2 <| o9 rfl V5 n8) (fun a _ => qz4) ?_;intro v15 _;refine T4 rfl rfl rfl (T2 2 (fun _ => rfl) (L4 (by' := 32) 2 rfl V5 Tryz.type64 rfl rfl rfl rfl rfl rfl (A0 rfl) (A0 rfl) rfl qz2)) (fun a _ => qz4) ?_;intro v18_1 hone_v18_1;have one_v18_1 := hone_v18_1.2;refine P4 rfl rfl rfl (fun ext => Y6 (places := #[(0, 1), (1, 1)]) rfl V4 Tryz.zeroValue61 (fun w => by kernel_rfl) rfl (D8 (A0 rfl) (q8 _) (D8 (A0 rfl) (K4 one_v18_1) U1)) rfl) ?_;refine R1 ?_;refine T4 rfl rfl rfl (L4 (by' := 40) 1 rfl D2 Tryz.type61 rfl rfl rfl rfl rfl rfl (A0 rfl) (A0 rfl) rfl (by rw [W8 BF9, V8, F4]; omega)) (fun a _ => qz4) ?_;intro v21_2 _;refine R3 ?_;refine AWP.le (B8 [0, 0, 0] rfl) ?_;refine AWP.le (S4 2 (t := nin B1.ow (l.take (i + 1)) (xs ++ [v18_1])) (AX6 (ow := B1.ow) (x := v18_1) hx hinv.2)) ?_;refine R4 ?_;refine S7 i v xs (i + 1) (v21_2) (xs ++ [v18_1]) ?_ ?_ (E5 1 (Eq.trans (by exact C3 (fun z => Own.arr _ _ _ z :: _) (AQ8 hx hinv.2)) (Q6 _).symm) A8)
  ·exact ⟨by omega, by rw [H3, hinv.2]; rfl⟩
  omega
 intro h9;have k9 := B9 h9;have hge : i = l.length := by omega
 have hxs := hinv.2.trans hge;rw [show l.take i = l from P8 qz8];refine R7 ?_;exact H7 [0] 0 (nin B1.ow l xs) [] (v, xs) (hxs) rfl (show List.Perm (nin B1.ow l xs) ((nin B1.ow l xs) ++ []) from B7) C1 (M4 rfl (A6 rfl qz9))
theorem Bt3 (v vv : Value) (l : List (List AV)) (x : List AV) (hx2 : x.length = 2) (hl2 : ∀ r ∈ l, r.length = 2) (i : Nat) (hi : i ≤ l.length) (hl : l.length ≤ 4194304) : M1 289 [AV.is v, AV.int i, AV.is vv] [.arr v 61 2 l, .arr vv 61 2 [x]] (fun _ : Value => True) (fun v => [.arr v 61 2 (l.take i ++ x :: l.drop i)]) (fun v => AV.is v) := by
  have := CD5 v vv l x hx2 hl2 i hi hl;simpa only [List.map_id, id_eq] using this
theorem DC3 {l : List B1} {xs : List Value} : ∀ r ∈ J7 B1.ocs l xs, r.length = 2 := fun r hr => by
  unfold J7 at hr;obtain ⟨i, hi⟩ := X9 hr;rw [List.getElem?_zipWith] at hi;split at hi
  · injection hi with hi; subst hi; rfl
  · cases hi
theorem An3 {α : Type} {f : α → Nat} {l : List α} (i : Nat) : C7 f (l.take i) ≤ C7 f l := by
  have := Ad2 (f := f) (l := l.take i) (r := l.drop i);rw [Ab0] at this; omega
theorem AN1 {α : Type} {f : α → Nat} {l : List α} {i : Nat} {x : α} (h : l[i]? = some x) : C7 f (l.take (i + 1)) = C7 f (l.take i) + (1 + f x) := by
  rw [T5, h, Ad2];show _ + C7 f [x] = _
  rw [X0]; rfl
def BO5 (A : List (List AV)) (k : Str) (vs : List (List AV)) (B : List (List AV)) (D : List Own) (o2 : List B1) (f : Value → List Value) : Prop :=
  ∀ y : Value, (f y).length = o2.length ∧ A ++ [AV.str k, AV.is y] :: B = J7 B1.ocs o2 (f y) ∧ (Own.arr y 64 3 vs :: D).Perm (nin B1.ow o2 (f y))
theorem Bt4 {o : List B1} {xs : List Value} {p : Nat} {c : B1} {y0 : Value} (hc : o[p]? = some c) (hy : xs[p]? = some y0) (hl : xs.length = o.length) (nv : O3) :
    BO5 (J7 B1.ocs (o.take p) (xs.take p)) c.Key (c.Vers.map O3.cs ++ [O3.cs nv]) (J7 B1.ocs (o.drop (p + 1)) (xs.drop (p + 1))) (nin B1.ow (o.eraseIdx p) (xs.eraseIdx p)) (o.set p ⟨c.Key, c.Vers ++ [nv]⟩) (fun y => xs.set p y) := fun y => by
  have hp := (E9.1 hc).1;have hx := (E9.1 hy).1;have hc' : (o.set p ⟨c.Key, c.Vers ++ [nv]⟩)[p]? = some ⟨c.Key, c.Vers ++ [nv]⟩ := AO3 hp;have hy' : (xs.set p y)[p]? = some y := AO3 hx;refine ⟨by rw [Z0, Z0, hl], ?_, ?_⟩
  · rw [AM6 hc' hy', List.take_set_of_le (K5 _), List.take_set_of_le (K5 _), List.drop_set_of_lt qz8, List.drop_set_of_lt qz8]
    rfl
  · have h := AZ4 (ow := B1.ow) hc' hy'
    rw [List.eraseIdx_set_eq, List.eraseIdx_set_eq] at h;refine List.Perm.trans ?_ h.symm;unfold B1.ow;simp only [X1, U8, List.map_nil];exact List.Perm.refl _
theorem Bt5 {o : List B1} {xs : List Value} {p : Nat} (hp : p ≤ o.length) (hl : xs.length = o.length) (k : Str) (nv : O3) :
    BO5 ((J7 B1.ocs o xs).take p) k [O3.cs nv] ((J7 B1.ocs o xs).drop p) (nin B1.ow o xs) (o.take p ++ ⟨k, [nv]⟩ :: o.drop p) (fun y => xs.take p ++ y :: xs.drop p) := fun y =>
  ⟨by rw [CY8 qz8, CY8 hp, hl], DC2 (ocs := B1.ocs) (p := ⟨k, [nv]⟩) hp hl, nin_ins (ow := B1.ow) (p := ⟨k, [nv]⟩) hp hl⟩
theorem As3 {l o : List B1} {w : List A4} {t : Int} {i : Nat} {x : A4} (h : Z4 l w t = Z4 o (w.drop i) t) (hx : w[i]? = some x) (ht : ¬ t ≤ N8 o x.Key) : Z4 l w t = Z4 (w7 o x t) (w.drop (i + 1)) t := by
  rw [h, I8 hx];unfold Z4;rw [C6 BO9]
  cases w.drop (i + 1) <;> rfl
theorem CY9 {l o : List B1} {w : List A4} {t : Int} {i : Nat} {x : A4} (h : Z4 l w t = Z4 o (w.drop i) t) (hx : w[i]? = some x) (ht : t ≤ N8 o x.Key) : Z4 l w t = none := by
  rw [h, I8 hx];unfold Z4;rw [D0 BO9]
theorem Co8 {l o : List B1} {w : List A4} {t : Int} {i : Nat} (h : Z4 l w t = Z4 o (w.drop i) t) (hi : w.length ≤ i) : Z4 l w t = some o := by
  rw [h, k6 hi]; rfl
theorem CZ0 (l : List B1) (w : List A4) (t : Int) (ho : AH8 l) (hs : C7 B1.size l ≤ 1048576) (hw : C7 A4.size w ≤ 1048576) : M1 244 [AV.list 2 (l.map B1.cs), AV.list 3 (w.map A4.cs), AV.int t] [] (fun x : Value × List Value => x.2.length = (putCells l w t).1.length) (fun x => .arr x.1 61 2 (J7 B1.ocs (putCells l w t).1 x.2) :: nin B1.ow (putCells l w t).1 x.2) (fun x => AV.tup [AV.is x.1, AV.bool (putCells l w t).2]) := by
 have hwl : w.length ≤ 1048576 := L8 L9 hw;refine C8 Tryz.func244 rfl Tryz.ntmps244 rfl ?_;refine R2 ?_;refine A1 rfl (G1 rfl I9) ?_;refine R5 ?_;refine K3 [] 0 1 ([]) ([]) (fun zz => nin B1.ow l zz.2) rfl rfl rfl rfl Tryz.call238 rfl rfl (show List.Perm ([]) (([]) ++ ([])) from List.Perm.refl _) (BV9 l qz8) J3 (fun a => M0) ?_;intro x14 ok14;refine R10 ?_;refine AS6 [(2, _), (15, _), (16, _)] [] (fun (i : Nat) (v : Value) (q : List B1) (xs : List Value) => i ≤ w.length ∧ xs.length = q.length ∧ AH8 q ∧ C7 B1.size q ≤ 1048576 + 2 * C7 A4.size (w.take i) ∧ Z4 l w t = Z4 q (w.drop i) t) (fun i v q xs => [.arr v 61 2 (J7 B1.ocs q xs)] ++ (nin B1.ow q xs)) (fun i v q xs => [(8, AV.is v), (17, AV.int i)]) (fun i v q xs => w.length - i) (0) (x14.1) (l) (x14.2) ?_ (K1 (by rw [Q6]; rfl) A8) ?_
 ·exact ⟨E2 _, ok14, ho, by omega, rfl⟩
 intro i v q xs hinv;have hlen := hinv.2.1;refine G0 (Q6 _) ?_;refine R5 ?_;refine A3 ?_ ?_
 ·intro h18;have k18 := C5 h18;have hlt : i < w.length := by omega
  obtain ⟨x, hx⟩ := B4 hlt;have htk := An3 (f := A4.size) (l := w) i;have hso : C7 B1.size q ≤ 4194304 := by omega
  have hol : q.length ≤ 4194304 := L8 L9 hso;refine R5 ?_;refine A1 rfl (D3 rfl D7 H0 (A0 rfl) (A0 rfl) hx qz2) ?_;refine R2 ?_;intro b10;refine R9 ?_;refine A1 rfl (l8 rfl Tryz.call287 rfl (CN9 q x.Key hinv.2.2.1 hso) (d4 _ _) (P1 (Ac4 (A0 rfl) (AX7 B1.lcM qz94 1 rfl (fun o ho => List.mem_of_mem_drop (i := 2) (show o ∈ nin B1.ow q xs from by first | exact ho | exact AF1 _ ho | exact r4 _ ho | exact r4 _ (AF1 _ ho) | exact r4 _ (r4 _ ho))))) (P1 (evb (A0 rfl)) m8))) ?_;refine R2 ?_;refine A3 ?_ ?_
  ·intro h26;have k26 := C5 h26;have he : putCells l w t = ([], false) := by unfold putCells; rw [CY9 hinv.2.2.2.2 hx k26]
   rw [he];refine R2 ?_;refine A1 rfl (G1 rfl I9) ?_;refine R3 ?_;refine Y3 61 2 ?_;first | exact I4 [0] ((E4), []) (rfl) rfl C1 AA6 | exact H7 [0] 2 (nin B1.ow q xs) [] ((E4), []) (rfl) rfl (show List.Perm (nin B1.ow q xs) ((nin B1.ow q xs) ++ []) from B7) C1 AA6 | exact I4 [0] ((E4), xs) (hinv.2.1) rfl C1 AA6 | exact H7 [0] 2 (nin B1.ow q xs) [] ((E4), xs) (hinv.2.1) rfl (show List.Perm (nin B1.ow q xs) ((nin B1.ow q xs) ++ []) from B7) C1 AA6
  intro h26;have k26 := B9 h26;refine R6 ?_;refine A1 rfl (l8 rfl Tryz.call288 rfl (Ax6 q x.Key qz8) (AX4 (H5 (d4 _ _) (H5 (U0 _) U5))) (P1 (Ac4 (A0 rfl) (AX7 B1.lcM qz94 1 rfl (fun o ho => List.mem_of_mem_drop (i := 2) (show o ∈ nin B1.ow q xs from by first | exact ho | exact AF1 _ ho | exact r4 _ ho | exact r4 _ (AF1 _ ho) | exact r4 _ (r4 _ ho))))) (P1 (evb (A0 rfl)) m8))) ?_;refine R12 ?_;refine A3 ?_ ?_
  ·intro h35;have hn : Ap2 q x.Key = false := by simpa using h35
   have hpl : AC9 q x.Key ≤ (J7 B1.ocs q xs).length := by rw [W8 hlen]; exact CB9 _ _
   have hA : ((J7 B1.ocs q xs).take (AC9 q x.Key)).length = AC9 q x.Key := by rw [F4]; omega
   obtain ⟨fx, hto⟩ : ∃ fx, BO5 ((J7 B1.ocs q xs).take (AC9 q x.Key)) x.Key [O3.cs ⟨t, x.Val, x.Gone⟩] ((J7 B1.ocs q xs).drop (AC9 q x.Key)) (nin B1.ow q xs) (w7 q x t) fx := ⟨_, by unfold w7; rw [pos_new hinv.2.2.1.1 hn]; exact Bt5 (CB9 _ _) hlen _ _⟩;refine R6 ?_;refine Ag0 rfl rfl rfl rfl D2 I1 Tryz.zeroValue61 rfl rfl rfl rfl (D8 (A0 rfl) (Z2 _) U1) rfl rfl ?_;intro v41;refine F8 [2, 0] rfl rfl rfl rfl Tryz.call289 rfl (Bt3 _ _ (J7 B1.ocs q xs) [AV.str x.Key, AV.nils] rfl DC3 (AC9 q x.Key) hpl (by rw [W8 hlen]; omega)) (A2 (A0 rfl) (A2 (A0 rfl) (A2 (A0 rfl) B0))) rfl ?_;intro x42 ok42;refine Cz7 64 3 ?_;refine R2 ?_;refine AWP.le (B8 [2, 1, 0] rfl) ?_;refine O8 _ [(0, false), (1, false), (2, false), (3, false), (4, false), (5, false), (6, false), (7, false), (8, false), (9, false), (10, false), (11, false), (12, false), (13, false), (14, true)] D4 D4 rfl (S3 2) ?_;refine R4 ?_;refine P4 rfl rfl rfl (fun ext => H6 1 rfl D2 I1 (A0 rfl) rfl (A0 rfl) qz8 Be7) ?_;refine P4 rfl rfl rfl (fun ext => L7 1 rfl V4 rfl n7 (A0 rfl) rfl rfl (AE5 hA)) ?_;refine P4 rfl rfl rfl (fun ext => N4 1 rfl (A0 rfl) rfl Tryz.isAgg59 (AE5 hA) rfl) ?_;refine R7 ?_;refine T4 rfl rfl rfl (L4 (by' := 32) 2 rfl V5 Tryz.type64 rfl rfl rfl rfl rfl rfl (A0 rfl) (A0 rfl) rfl qz2) (fun a _ => qz4) ?_;intro v57_2 _;refine R1 ?_;refine A1 rfl (H6 1 rfl D2 I1 (A0 rfl) rfl (A0 rfl) qz8 Be7) ?_;refine A1 rfl (L7 1 rfl V4 rfl n7 (A0 rfl) rfl rfl (AE5 hA)) ?_;refine O7 2 rfl fun one_v57_2 => ?_;refine Af9 1 rfl rfl rfl (A0 rfl) (A0 rfl) (K4 one_v57_2) rfl n7 hA rfl ?_;refine R1 ?_;refine AWP.le (B8 [0, 0, 0] rfl) ?_;refine AWP.le (S4 2 (t := nin B1.ow (w7 q x t) (fx v57_2)) ((hto v57_2).2.2)) ?_;refine AWP.le (B8 [0] rfl) ?_;refine R4 ?_;refine s8 i v q xs (i + 1) (x42) (w7 q x t) (fx v57_2) ?_ ?_ (E5 1 (Eq.trans (by exact C3 (fun z => Own.arr _ _ _ z :: _) (hto v57_2).2.1) (Q6 _).symm) A8)
   ·exact ⟨by omega, (hto _).1, AS8 hinv.2.2.1 _ _, by have h8 := AX8 q x t; have h9 := AN1 (f := A4.size) hx; omega, As3 hinv.2.2.2.2 hx k26⟩
   omega
  intro h35;have hn : Ap2 q x.Key = true := by simpa using h35
  obtain ⟨c, hc, hck, hins⟩ := pos_has hinv.2.2.1.1 hn ⟨t, x.Val, x.Gone⟩;have hpo := (E9.1 hc).1;obtain ⟨y, hy⟩ := B4 (show AC9 q x.Key < xs.length by omega);have hA := AL8 (ocs := B1.ocs) hc hy;obtain ⟨fx, hto⟩ : ∃ fx, BO5 (J7 B1.ocs (q.take (AC9 q x.Key)) (xs.take (AC9 q x.Key))) c.Key (c.Vers.map O3.cs ++ [O3.cs ⟨t, x.Val, x.Gone⟩]) (J7 B1.ocs (q.drop (AC9 q x.Key + 1)) (xs.drop (AC9 q x.Key + 1))) (nin B1.ow (q.eraseIdx (AC9 q x.Key)) (xs.eraseIdx (AC9 q x.Key))) (w7 q x t) fx := ⟨_, by have h7 := Bt4 hc hy hlen ⟨t, x.Val, x.Gone⟩; unfold w7; rw [hins, ← hck]; rw [hck] at h7 ⊢; exact h7⟩;have hcs := AK4 (L8 (U6 hc) hso);rw [AM6 hc hy];refine AWP.le (S4 2 (t := (B1.ow c y) ++ (nin B1.ow (q.eraseIdx (AC9 q x.Key)) (xs.eraseIdx (AC9 q x.Key)))) (AZ4 (ow := B1.ow) hc hy)) ?_;refine R1 ?_;refine AWP.le (B8 [0, 0, 0] rfl) ?_;refine O8 _ [(0, false), (1, false), (2, false), (3, false), (4, false), (5, false), (6, false), (7, false), (8, false), (9, false), (10, false), (11, false), (12, false), (13, false), (14, true)] D4 D4 rfl (S3 2) ?_;refine R4 ?_;refine P4 rfl rfl rfl (fun ext => H6 1 rfl D2 I1 (A0 rfl) rfl (A0 rfl) qz8 Be7) ?_;refine P4 rfl rfl rfl (fun ext => L7 1 rfl V4 rfl n7 (A0 rfl) rfl rfl (AE5 hA)) ?_;refine P4 rfl rfl rfl (fun ext => N4 1 rfl (A0 rfl) rfl Tryz.isAgg59 (AE5 hA) rfl) ?_;refine R7 ?_;refine T4 rfl rfl rfl (L4 (by' := 32) 2 rfl V5 Tryz.type64 rfl rfl rfl rfl rfl rfl (A0 rfl) (A0 rfl) rfl qz2) (fun a _ => qz4) ?_;intro v57_3 _;refine R1 ?_;refine A1 rfl (H6 1 rfl D2 I1 (A0 rfl) rfl (A0 rfl) qz8 Be7) ?_;refine A1 rfl (L7 1 rfl V4 rfl n7 (A0 rfl) rfl rfl (AE5 hA)) ?_;refine O7 2 rfl fun one_v57_3 => ?_;refine Af9 1 rfl rfl rfl (A0 rfl) (A0 rfl) (K4 one_v57_3) rfl n7 hA rfl ?_;refine R1 ?_;refine AWP.le (B8 [0, 0, 0] rfl) ?_;refine AWP.le (S4 2 (t := nin B1.ow (w7 q x t) (fx v57_3)) ((hto v57_3).2.2)) ?_;refine AWP.le (B8 [0] rfl) ?_;refine R4 ?_;refine s8 i v q xs (i + 1) (v) (w7 q x t) (fx v57_3) ?_ ?_ (E5 1 (Eq.trans (by exact C3 (fun z => Own.arr _ _ _ z :: _) (hto v57_3).2.1) (Q6 _).symm) A8)
  ·exact ⟨by omega, (hto _).1, AS8 hinv.2.2.1 _ _, by have h8 := AX8 q x t; have h9 := AN1 (f := A4.size) hx; omega, As3 hinv.2.2.2.2 hx k26⟩
  omega
 intro h18;have k18 := B9 h18;have hge : w.length ≤ i := by omega
 have hpe := Co8 hinv.2.2.2.2 hge;have htk := An3 (f := A4.size) (l := w) i;have hso : C7 B1.size q ≤ 4194304 := by omega
 refine R5 ?_;refine A1 rfl (l8 rfl Tryz.call290 rfl (CC9 q hso) (U0 _) (P1 (Ac4 (A0 rfl) (AX7 B1.lcM qz94 0 rfl (fun o ho => List.mem_of_mem_drop (i := 1) (show o ∈ nin B1.ow q xs from by first | exact ho | exact AF1 _ ho | exact r4 _ ho | exact r4 _ (AF1 _ ho) | exact r4 _ (r4 _ ho))))) m8)) ?_;refine R2 ?_;refine A3 ?_ ?_
 ·intro h63;have he : putCells l w t = ([], false) := by unfold putCells; rw [hpe]; simp only; rw [D0 h63]
  rw [he];refine R2 ?_;refine A1 rfl (G1 rfl I9) ?_;refine R3 ?_;refine Y3 61 2 ?_;first | exact I4 [0] ((E4), []) (rfl) rfl C1 AA6 | exact H7 [0] 1 (nin B1.ow q xs) [] ((E4), []) (rfl) rfl (show List.Perm (nin B1.ow q xs) ((nin B1.ow q xs) ++ []) from B7) C1 AA6 | exact I4 [0] ((E4), xs) (hinv.2.1) rfl C1 AA6 | exact H7 [0] 1 (nin B1.ow q xs) [] ((E4), xs) (hinv.2.1) rfl (show List.Perm (nin B1.ow q xs) ((nin B1.ow q xs) ++ []) from B7) C1 AA6
 intro h63;have he : putCells l w t = (q, true) := by unfold putCells; rw [hpe]; simp only; rw [C6 (by rw [h63]; decide)]
 rw [he];refine R8 ?_;first | exact I4 [0] (v, []) (rfl) rfl C1 AA6 | exact H7 [0] 0 (nin B1.ow q xs) [] (v, []) (rfl) rfl (show List.Perm (nin B1.ow q xs) ((nin B1.ow q xs) ++ []) from B7) C1 AA6 | exact H7 [0] 0 (nin B1.ow q xs) [] (v, xs) (hinv.2.1) rfl (show List.Perm (nin B1.ow q xs) ((nin B1.ow q xs) ++ []) from B7) C1 AA6
theorem DC4 (l : List B1) (w : List A4) (t : Int) (ho : AH8 l) (hs : C7 B1.size l ≤ 1048576) (hw : C7 A4.size w ≤ 1048576) (ht1 : 1 ≤ t) : M1 207 [AV.list 2 (l.map B1.cs), AV.list 3 (w.map A4.cs), AV.int t] [] (fun x : Value × List Value => x.2.length = (AE2 l w t).1.length) (fun x => .arr x.1 61 2 (J7 B1.ocs (AE2 l w t).1 x.2) :: nin B1.ow (AE2 l w t).1 x.2) (fun x => AV.tup [AV.is x.1, AV.bool (AE2 l w t).2]) := by
 have hwl : w.length ≤ 1048576 := L8 L9 hw;refine C8 Tryz.func207 rfl Tryz.ntmps207 rfl ?_;refine R2 ?_;refine A1 rfl (G1 rfl I9) ?_;refine R5 ?_;refine K3 [] 0 1 ([]) ([]) (fun zz => nin B1.ow l zz.2) rfl rfl rfl rfl Tryz.call258 rfl rfl (show List.Perm ([]) (([]) ++ ([])) from List.Perm.refl _) (CJ8 l qz8) J3 (fun a => M0) ?_;intro x15 ok15;refine R10 ?_;refine AS6 [(2, _), (16, _), (17, _)] [] (fun (i : Nat) (v : Value) (q : List B1) (xs : List Value) => i ≤ w.length ∧ xs.length = q.length ∧ AH8 q ∧ C7 B1.size q ≤ 1048576 + 2 * C7 A4.size (w.take i) ∧ Z4 l w t = Z4 q (w.drop i) t) (fun i v q xs => [.arr v 61 2 (J7 B1.ocs q xs)] ++ (nin B1.ow q xs)) (fun i v q xs => [(8, AV.is v), (18, AV.int i)]) (fun i v q xs => w.length - i) (0) (x15.1) (l) (x15.2) ?_ (K1 (by rw [Q6]; rfl) A8) ?_
 ·exact ⟨E2 _, ok15, ho, by omega, rfl⟩
 intro i v q xs hinv;have hlen := hinv.2.1;have hinvo := hinv;have hrl : (J7 B1.ocs q xs).length = q.length := W8 hlen;refine G0 (Q6 _) ?_;refine R5 ?_;refine A3 ?_ ?_
 ·intro h19;have k19 := C5 h19;have hlt : i < w.length := by omega
  obtain ⟨x, hx⟩ := B4 hlt;have htk := An3 (f := A4.size) (l := w) i;have hso : C7 B1.size q ≤ 4194304 := by omega
  have hql : q.length ≤ 4194304 := L8 L9 hso;refine R5 ?_;refine A1 rfl (D3 rfl D7 H0 (A0 rfl) (A0 rfl) hx qz2) ?_;refine R2 ?_;intro b10;refine R11 ?_;intro b11;refine R10 ?_;refine F2 [(2, _), (8, _), (10, _), (11, _), (16, _), (17, _), (18, _), (19, _), (20, _), (21, _), (22, _), (23, _), (24, _), (25, _), (26, _), (27, _), (28, _), (29, _)] _ (fun (j : Nat) => j ≤ q.length ∧ ∀ (a : Nat) (c : B1), j ≤ a → q[a]? = some c → Op.bytesLess x.Key c.Key = true) (fun j => []) (fun j => [(12, AV.int j)]) (fun j => j) (q.length) ?_ (G3 ⟨C3 (fun z : Nat => some (AV.int z)) hrl, rfl, rfl, rfl, rfl, rfl, rfl, rfl, rfl, rfl, rfl, rfl, rfl, rfl, rfl, rfl, rfl, rfl, rfl, trivial⟩) ?_
  ·exact ⟨K5 _, fun a c ha hc => by have := (E9.1 hc).1; omega⟩
  intro j hinv;obtain ⟨c, hc0⟩ := BB6 q (j - 1);obtain ⟨y, hy0⟩ : ∃ y, j - 1 < xs.length → xs[j - 1]? = some y := ⟨xs[j - 1]?.getD (.int .i64 0), fun h => by rw [N6 h]; rfl⟩;have hj1 : 0 < j → ((j : Int) - 1).toNat = j - 1 := fun _ => by omega
  have hrow0 : 0 < j → (J7 B1.ocs q xs)[((j : Int) - 1).toNat]? = some (B1.ocs c y) := fun h => by rw [hj1 h]; exact c8 (hc0 qz8) (hy0 qz8)
  refine R9 ?_;refine Q4 rfl (V1 rfl rfl rfl) (fun hc => H6 2 rfl D2 I1 (A9 rfl hc) rfl (A9 rfl hc) qz6 qz6) ?_;refine Q4 rfl (V1 rfl rfl rfl) (fun hc => L7 2 rfl V4 rfl I2 (A9 rfl hc) rfl rfl (hrow0 qz6)) ?_;refine Q4 rfl (V1 rfl rfl rfl) (fun hc => N4 2 rfl (A9 rfl hc) rfl j4 (hrow0 qz6) rfl) ?_;refine R2 ?_;refine Q4 rfl (V1 rfl rfl rfl) (fun hc => Bq8 rfl (A9 rfl hc) (A9 rfl hc)) ?_;refine R2 ?_;refine A3 ?_ ?_
  ·intro h42;have hgt : 0 < j ∧ Op.bytesLess x.Key c.Key = true := by rw [a8]; simpa using h42
   refine R7 ?_;refine Am5 ?_;refine G4 j (j - 1) ?_ ?_ (G3 ⟨C3 (fun z : Int => some (AV.int z)) qz8, rfl, rfl, rfl, rfl, rfl, rfl, rfl, rfl, rfl, rfl, rfl, rfl, rfl, rfl, rfl, rfl, rfl, rfl, trivial⟩)
   ·exact ⟨by omega, fun a c' ha hc' => if h9 : j ≤ a then hinv.2 a c' h9 hc' else (by have e : a = j - 1 := qz8; subst e; rw [hc0 qz8] at hc'; injection hc' with hc'; subst hc'; exact hgt.2)⟩
   omega
  intro h42;have hng : 0 < j → Op.bytesLess x.Key c.Key = false := fun h => by rw [a8]; simpa [h] using h42
  refine R10 ?_;refine Q4 rfl (V1 rfl rfl rfl) (fun hc => H6 2 rfl D2 I1 (A9 rfl hc) rfl (A9 rfl hc) qz6 qz6) ?_;refine Q4 rfl (V1 rfl rfl rfl) (fun hc => L7 2 rfl V4 rfl I2 (A9 rfl hc) rfl rfl (hrow0 qz6)) ?_;refine Q4 rfl (V1 rfl rfl rfl) (fun hc => N4 2 rfl (A9 rfl hc) rfl j4 (hrow0 qz6) rfl) ?_;refine R5 ?_;refine A3 ?_ ?_
  ·intro h57;have hf : 0 < j ∧ c.Key = x.Key := by simpa using h57
   have hc := hc0 qz8;have hy := hy0 qz8;have hins := CX5 hinvo.2.2.1.1 hc hf.2 ⟨t, x.Val, x.Gone⟩;refine R6 ?_;refine A1 rfl (l8 rfl Tryz.call262 rfl (BK9 q x.Key hinvo.2.2.1 hso) (d4 _ _) (P1 (Ac4 (A0 rfl) (AX7 B1.lcM qz94 2 rfl (fun o ho => List.mem_of_mem_drop (i := 3) (show o ∈ nin B1.ow q xs from by first | exact ho | exact AF1 _ ho | exact r4 _ ho | exact r4 _ (AF1 _ ho) | exact r4 _ (r4 _ ho))))) (P1 (evb (A0 rfl)) m8))) ?_;refine R3 ?_;refine A3 ?_ ?_
   ·intro h63;have k63 := C5 h63;have he : AE2 l w t = ([], false) := by unfold AE2; rw [CY9 hinvo.2.2.2.2 hx k63]
    rw [he];refine R2 ?_;refine A1 rfl (G1 rfl I9) ?_;refine R3 ?_;refine Y3 61 2 ?_;first | exact I4 [0] ((E4), []) (rfl) rfl C1 AA6 | exact H7 [0] 3 (nin B1.ow q xs) [] ((E4), []) (rfl) rfl (show List.Perm (nin B1.ow q xs) ((nin B1.ow q xs) ++ []) from B7) C1 AA6 | exact I4 [0] ((E4), xs) (hinv.2.1) rfl C1 AA6 | exact H7 [0] 3 (nin B1.ow q xs) [] ((E4), xs) (hinv.2.1) rfl (show List.Perm (nin B1.ow q xs) ((nin B1.ow q xs) ++ []) from B7) C1 AA6
   intro h63;have k63 := B9 h63;have hnt : ¬ t ≤ N8 q x.Key := k63;have hA : (J7 B1.ocs (q.take (j - 1)) (xs.take (j - 1))).length = ((j : Int) - 1).toNat := (AL8 (ocs := B1.ocs) hc hy).trans (hj1 hf.1).symm;obtain ⟨fx, hto⟩ : ∃ fx, BO5 (J7 B1.ocs (q.take (j - 1)) (xs.take (j - 1))) c.Key (c.Vers.map O3.cs ++ [O3.cs ⟨t, x.Val, x.Gone⟩]) (J7 B1.ocs (q.drop (j - 1 + 1)) (xs.drop (j - 1 + 1))) (nin B1.ow (q.eraseIdx (j - 1)) (xs.eraseIdx (j - 1))) (w7 q x t) fx := ⟨_, by have h7 := Bt4 hc hy hlen ⟨t, x.Val, x.Gone⟩; unfold w7; rw [hins]; rw [hf.2] at h7 ⊢; exact h7⟩;have hcs := AK4 (L8 (U6 hc) hso);rw [AM6 hc hy];refine AWP.le (S4 3 (t := (B1.ow c y) ++ (nin B1.ow (q.eraseIdx (j - 1)) (xs.eraseIdx (j - 1)))) (AZ4 (ow := B1.ow) hc hy)) ?_;refine R2 ?_;refine AWP.le (B8 [0, 1, 1] rfl) ?_;refine O8 _ [(0, false), (1, false), (2, false), (3, false), (4, false), (5, false), (6, false), (7, false), (8, false), (9, false), (10, false), (11, true)] D4 D4 rfl (S3 2) ?_;refine R6 ?_;refine P4 rfl rfl rfl (fun ext => H6 1 rfl D2 I1 (A0 rfl) rfl (A0 rfl) qz8 Be7) ?_;refine P4 rfl rfl rfl (fun ext => L7 1 rfl V4 rfl n7 (A0 rfl) rfl rfl (AE5 hA)) ?_;refine P4 rfl rfl rfl (fun ext => N4 1 rfl (A0 rfl) rfl Tryz.isAgg59 (AE5 hA) rfl) ?_;refine R2 ?_;refine T4 rfl rfl rfl (L4 (by' := 32) 2 rfl V5 Tryz.type64 rfl rfl rfl rfl rfl rfl (A0 rfl) (A0 rfl) rfl qz2) (fun a _ => qz4) ?_;intro v75_2 _;refine R1 ?_;refine A1 rfl (H6 1 rfl D2 I1 (A0 rfl) rfl (A0 rfl) qz8 Be7) ?_;refine A1 rfl (L7 1 rfl V4 rfl n7 (A0 rfl) rfl rfl (AE5 hA)) ?_;refine O7 2 rfl fun one_v75_2 => ?_;refine Af9 1 rfl rfl rfl (A0 rfl) (A0 rfl) (K4 one_v75_2) rfl n7 hA rfl ?_;refine R2 ?_;refine G0 qz51 ?_;refine AWP.le (B8 [0, 0, 1, 0] rfl) ?_;refine AWP.le (S4 3 (t := nin B1.ow (w7 q x t) (fx v75_2)) ((hto v75_2).2.2)) ?_;refine R4 ?_;refine s8 i v q xs (i + 1) (v) (w7 q x t) (fx v75_2) ?_ ?_ (Le.trans (B8 [0, 1, 0] rfl) (E5 2 (Eq.trans (by first | exact C3 (fun z => Own.arr _ _ _ z :: _) (hto v75_2).2.1 | exact C3 (fun z => Own.arr _ _ _ z :: _) (by first | (rw [AC0, f4]; exact (hto v75_2).2.1) | (rw [f4]; exact (hto v75_2).2.1))) (Q6 _).symm) A8))
   ·exact ⟨by omega, (hto _).1, AS8 hinvo.2.2.1 _ _, by have h8 := AX8 q x t; have h9 := AN1 (f := A4.size) hx; omega, As3 hinvo.2.2.2.2 hx hnt⟩
   omega
  intro h57;have hnf : 0 < j → c.Key ≠ x.Key := fun h => by simpa [h] using h57
  obtain ⟨hins, hl0⟩ := scan_new hinvo.2.2.1.1 hinv.1 hinv.2 (fun z hz hzz => by rw [hc0 qz8] at hzz; injection hzz with hzz; subst hzz; rw [a8, hng hz]; simpa using fun e => hnf hz e.symm) ⟨t, x.Val, x.Gone⟩;have hnt : ¬ t ≤ N8 q x.Key := by rw [hl0]; omega
  obtain ⟨fx, hto⟩ : ∃ fx, BO5 ((J7 B1.ocs q xs).take j) x.Key [O3.cs ⟨t, x.Val, x.Gone⟩] ((J7 B1.ocs q xs).drop j) (nin B1.ow q xs) (w7 q x t) fx := ⟨_, by unfold w7; rw [hins]; exact Bt5 hinv.1 hlen _ _⟩;refine R2 ?_;refine AWP.le (AK1 [2] 8 rfl rfl (K0 (C2 (i := 0) rfl) F6) U2) ?_;refine R1 ?_;refine P6 rfl rfl rfl rfl D2 I1 ?_;intro v78;refine R2 ?_;refine A1 rfl (CV3 rfl D2 I1 (A0 rfl) (A0 rfl) qz8 (by rw [hrl]; omega)) ?_;refine H4 (by' := 40) 0 rfl rfl rfl rfl D2 Tryz.type61 rfl rfl rfl rfl rfl rfl (A0 rfl) (A0 rfl) rfl BJ8 ?_;intro v82_3;refine R2 ?_;refine AWP.le (AK1 [0] 13 rfl rfl (K0 (C2 (i := 0) rfl) F6) U2) ?_;refine AWP.le (B8 [0, 0] rfl) ?_;refine X5 _ 14 (.pure 1 (.pure 2 (.pure 3 (.pure 5 (.pure 6 (.pure 7 (.pure 12 (.e2 0 (.e2 4 (.e1 8 (.pure 9 (.pure 10 (.e1 11 (.e1 13 .nil))))) 8 (.pure 9 (.pure 10 (.e1 4 (.e1 11 (.e1 13 .nil)))))) 8 (.pure 9 (.pure 10 (.e1 0 (.e1 4 (.e1 11 (.e1 13 .nil)))))))))))))) D4 D4 rfl (S3 2) ?_;refine R2 ?_;refine K9 rfl rfl rfl (fun ext => CV2 rfl D2 I1 (A0 rfl) (A0 rfl) qz8 (by rw [hrl]; omega)) ?_;refine R4 ?_;refine AL7 ?_ ?_
  ·refine I6 rfl rfl rfl (u7 2 <| o9 rfl D2 I1) (fun a _ => qz4) ?_;intro v83 _;refine AL7 ?_ ?_
   ·refine I6 rfl rfl rfl (L4 (by' := 40) 2 rfl D2 Tryz.type61 rfl rfl rfl rfl rfl rfl (A0 rfl) (A0 rfl) rfl BJ8) (fun a _ => qz4) ?_;intro v87_4 _;refine R1 ?_;refine I6 rfl rfl rfl (T2 3 (fun _ => rfl) (u7 3 <| Az5 rfl V5 n8 Tryz.zeroValue64 rfl rfl rfl rfl (D8 (A0 rfl) (Z2 _) U1) rfl rfl)) (fun a _ => qz4) ?_;intro v91 hone_v91;have one_v91 := hone_v91.2;refine K9 rfl rfl rfl (fun ext => Y6 (places := #[(0, 1), (1, 1)]) rfl V4 Tryz.zeroValue61 (fun w => by kernel_rfl) rfl (D8 (A0 rfl) (q8 _) (D8 (A0 rfl) (K4 one_v91) U1)) rfl) ?_;refine R2 ?_;refine I6 rfl rfl rfl (L4 (by' := 40) 2 rfl D2 Tryz.type61 rfl rfl rfl rfl rfl rfl (A0 rfl) (A0 rfl) rfl BJ8) (fun a _ => qz4) ?_;intro v94_5 _;refine R1 ?_;refine I6 rfl rfl rfl (L4 (by' := 40) 2 rfl D2 Tryz.type61 rfl rfl rfl rfl rfl rfl (A0 rfl) (A0 rfl) rfl BJ8) (fun a _ => qz4) ?_;intro v96_6 _;refine R3 ?_;refine G0 qz51 ?_;refine AWP.le (B8 [0, 0, 0, 0] rfl) ?_;refine AWP.le (S4 3 (t := nin B1.ow (w7 q x t) (fx v91)) ((hto v91).2.2)) ?_;refine R4 ?_;refine s8 i v q xs (i + 1) (v96_6) (w7 q x t) (fx v91) ?_ ?_ (Le.trans (B8 [0, 0, 0] rfl) (E5 2 (Eq.trans qz65 (Q6 _).symm) A8))
    ·exact ⟨by omega, (hto _).1, AS8 hinvo.2.2.1 _ _, by have h8 := AX8 q x t; have h9 := AN1 (f := A4.size) hx; omega, As3 hinvo.2.2.2.2 hx hnt⟩
    omega
   refine I6 rfl rfl rfl (T2 3 (fun _ => rfl) (u7 3 <| Az5 rfl V5 n8 Tryz.zeroValue64 rfl rfl rfl rfl (D8 (A0 rfl) (Z2 _) U1) rfl rfl)) (fun a _ => qz4) ?_;intro v91 hone_v91;have one_v91 := hone_v91.2;refine K9 rfl rfl rfl (fun ext => Y6 (places := #[(0, 1), (1, 1)]) rfl V4 Tryz.zeroValue61 (fun w => by kernel_rfl) rfl (D8 (A0 rfl) (q8 _) (D8 (A0 rfl) (K4 one_v91) U1)) rfl) ?_;refine R2 ?_;refine I6 rfl rfl rfl (L4 (by' := 40) 2 rfl D2 Tryz.type61 rfl rfl rfl rfl rfl rfl (A0 rfl) (A0 rfl) rfl BJ8) (fun a _ => qz4) ?_;intro v87_7 _;refine R1 ?_;refine I6 rfl rfl rfl (L4 (by' := 40) 2 rfl D2 Tryz.type61 rfl rfl rfl rfl rfl rfl (A0 rfl) (A0 rfl) rfl BJ8) (fun a _ => qz4) ?_;intro v94_8 _;refine R1 ?_;refine I6 rfl rfl rfl (L4 (by' := 40) 2 rfl D2 Tryz.type61 rfl rfl rfl rfl rfl rfl (A0 rfl) (A0 rfl) rfl BJ8) (fun a _ => qz4) ?_;intro v96_9 _;refine R3 ?_;refine G0 qz51 ?_;refine AWP.le (B8 [0, 0, 0, 0] rfl) ?_;refine AWP.le (S4 3 (t := nin B1.ow (w7 q x t) (fx v91)) ((hto v91).2.2)) ?_;refine R4 ?_;refine s8 i v q xs (i + 1) (v96_9) (w7 q x t) (fx v91) ?_ ?_ (Le.trans (B8 [0, 0, 0] rfl) (E5 2 (Eq.trans qz65 (Q6 _).symm) A8))
   ·exact ⟨by omega, (hto _).1, AS8 hinvo.2.2.1 _ _, by have h8 := AX8 q x t; have h9 := AN1 (f := A4.size) hx; omega, As3 hinvo.2.2.2.2 hx hnt⟩
   omega
  refine I6 rfl rfl rfl (T2 2 (fun _ => rfl) (u7 2 <| Az5 rfl V5 n8 Tryz.zeroValue64 rfl rfl rfl rfl (D8 (A0 rfl) (Z2 _) U1) rfl rfl)) (fun a _ => qz4) ?_;intro v91 hone_v91;have one_v91 := hone_v91.2;refine K9 rfl rfl rfl (fun ext => Y6 (places := #[(0, 1), (1, 1)]) rfl V4 Tryz.zeroValue61 (fun w => by kernel_rfl) rfl (D8 (A0 rfl) (q8 _) (D8 (A0 rfl) (K4 one_v91) U1)) rfl) ?_;refine R2 ?_;refine I6 rfl rfl rfl (u7 3 <| o9 rfl D2 I1) (fun a _ => qz4) ?_;intro v83 _;refine R1 ?_;refine I6 rfl rfl rfl (L4 (by' := 40) 3 rfl D2 Tryz.type61 rfl rfl rfl rfl rfl rfl (A0 rfl) (A0 rfl) rfl BJ8) (fun a _ => qz4) ?_;intro v87_10 _;refine R1 ?_;refine I6 rfl rfl rfl (L4 (by' := 40) 3 rfl D2 Tryz.type61 rfl rfl rfl rfl rfl rfl (A0 rfl) (A0 rfl) rfl BJ8) (fun a _ => qz4) ?_;intro v94_11 _;refine R1 ?_;refine I6 rfl rfl rfl (L4 (by' := 40) 3 rfl D2 Tryz.type61 rfl rfl rfl rfl rfl rfl (A0 rfl) (A0 rfl) rfl BJ8) (fun a _ => qz4) ?_;intro v96_12 _;refine R3 ?_;refine G0 qz51 ?_;refine AWP.le (B8 [0, 0, 1, 0] rfl) ?_;refine AWP.le (S4 3 (t := nin B1.ow (w7 q x t) (fx v91)) ((hto v91).2.2)) ?_;refine R4 ?_;refine s8 i v q xs (i + 1) (v96_12) (w7 q x t) (fx v91) ?_ ?_ (Le.trans (B8 [0, 0, 0] rfl) (E5 2 (Eq.trans qz65 (Q6 _).symm) A8))
  ·exact ⟨by omega, (hto _).1, AS8 hinvo.2.2.1 _ _, by have h8 := AX8 q x t; have h9 := AN1 (f := A4.size) hx; omega, As3 hinvo.2.2.2.2 hx hnt⟩
  omega
 intro h19;have k19 := B9 h19;have hge : w.length ≤ i := by omega
 have hpe := Co8 hinv.2.2.2.2 hge;have htk := An3 (f := A4.size) (l := w) i;have hso : C7 B1.size q ≤ 4194304 := by omega
 have he : AE2 l w t = (q, Ap1 q) := by unfold AE2; rw [hpe]
 rw [he];refine R5 ?_;refine A1 rfl (l8 rfl Tryz.call263 rfl (Bj2 q hso) (U0 _) (P1 (Ac4 (A0 rfl) (AX7 B1.lcM qz94 0 rfl (fun o ho => List.mem_of_mem_drop (i := 1) (show o ∈ nin B1.ow q xs from by first | exact ho | exact AF1 _ ho | exact r4 _ ho | exact r4 _ (AF1 _ ho) | exact r4 _ (r4 _ ho))))) m8)) ?_;refine R4 ?_;first | exact I4 [0] (v, []) (rfl) rfl C1 AA6 | exact H7 [0] 0 (nin B1.ow q xs) [] (v, []) (rfl) rfl (show List.Perm (nin B1.ow q xs) ((nin B1.ow q xs) ++ []) from B7) C1 AA6 | exact H7 [0] 0 (nin B1.ow q xs) [] (v, xs) (hinv.2.1) rfl (show List.Perm (nin B1.ow q xs) ((nin B1.ow q xs) ++ []) from B7) C1 AA6
end Go.PQ
namespace Go.M
open Go.AV
theorem Ba6 {h : D1} : ∀ {l : List D1} {p : Nat}, p ≤ l.length → (∀ i x, i < p → l[i]? = some x → x.Txn ≤ h.Txn) → (∀ x, l[p]? = some x → h.Txn < x.Txn) → AT5 h l = l.take p ++ h :: l.drop p
  | [], p, hp, _, _ => by simp at hp; subst hp; rfl
  | g :: l, 0, _, _, h2 => by unfold AT5; rw [D0 (h2 g rfl)]; rfl
  | g :: l, p + 1, hp, h1, h2 => by
    unfold AT5;rw [C6 (by have := h1 0 g qz8 rfl; omega), Ba6 (by simpa using hp) (fun i x hi hx => h1 (i + 1) x qz8 AX1) (fun x hx => h2 x AX1)];rfl
theorem Ba7 {h : N1} : ∀ {l : List N1} {p : Nat}, p ≤ l.length → (∀ i x, i < p → l[i]? = some x → x.Txn ≤ h.Txn) → (∀ x, l[p]? = some x → h.Txn < x.Txn) → AP2 h l = l.take p ++ h :: l.drop p
  | [], p, hp, _, _ => by simp at hp; subst hp; rfl
  | g :: l, 0, _, _, h2 => by unfold AP2; rw [D0 (h2 g rfl)]; rfl
  | g :: l, p + 1, hp, h1, h2 => by
    unfold AP2;rw [C6 (by have := h1 0 g qz8 rfl; omega), Ba7 (by simpa using hp) (fun i x hi hx => h1 (i + 1) x qz8 AX1) (fun x hx => h2 x AX1)];rfl
theorem Co9 (l : List D1) (n : Int) : Aa8 l n ≤ l.length := CX3 _ _ _ _ _ rfl (E2 _) (K5 _)
theorem Cp0 (l : List N1) (n : Int) : Ay3 l n ≤ l.length := CX3 _ _ _ _ _ rfl (E2 _) (K5 _)
theorem insH_pos {l : List D1} (hs : l.Pairwise fun a b => a.Txn < b.Txn) {h : D1} (hn : At2 l h.Txn = false) : AT5 h l = l.take (Aa8 l h.Txn) ++ h :: l.drop (Aa8 l h.Txn) := by
  obtain ⟨h1, h2⟩ := Bn5 (f := D1.Txn) hs h.Txn;rw [BC0 hs] at hn;refine Ba6 (Co9 _ _) (fun i x hi hx => by have := h1 i x hi hx; omega) fun x hx => ?_;have h3 := h2 x hx;have h4 := AS9.1 hn x (C2 hx);omega
theorem insT_pos {l : List N1} (hs : l.Pairwise fun a b => a.Txn < b.Txn) {h : N1} (hn : tHas l h.Txn = false) : AP2 h l = l.take (Ay3 l h.Txn) ++ h :: l.drop (Ay3 l h.Txn) := by
  obtain ⟨h1, h2⟩ := Bn5 (f := N1.Txn) hs h.Txn;rw [Bg6 hs] at hn;refine Ba7 (Cp0 _ _) (fun i x hi hx => by have := h1 i x hi hx; omega) fun x hx => ?_;have h3 := h2 x hx;have h4 := BS0.1 hn x (C2 hx);omega
theorem DC5 {l : List D1} {n : Int} (h : At2 l n = true) : ∃ x, l[Aa8 l n]? = some x ∧ x.Txn = n := by
  unfold At2 Ae6 at h
  cases e : l[Aa8 l n]? with
  | none => rw [e] at h; cases h
  | some x => rw [e] at h; exact ⟨x, rfl, (BL0 _ _).1 (by simpa [hCmp] using h)⟩
theorem CZ1 {l : List D1} (hs : l.Pairwise fun a b => a.Txn < b.Txn) {i j : Nat} {x y : D1} (hx : l[i]? = some x) (hy : l[j]? = some y) (e : x.Txn = y.Txn) : i = j := by
  rcases Nat.lt_trichotomy i j with h | h | h
  · have := BB9 (f := D1.Txn) hs h hx hy; omega
  · exact h
  · have := BB9 (f := D1.Txn) hs h hy hx; omega
theorem DC6 {l : List D1} (hs : l.Pairwise fun a b => a.Txn < b.Txn) {i : Nat} {x : D1} (hx : l[i]? = some x) : AB3 l x.Txn = some x := by
  cases e : AB3 l x.Txn with
  | none =>
    rw [Az7, AS9] at e;exact (e x (C2 hx) rfl).elim
  | some y =>
    obtain ⟨h1, h2⟩ := Ag3 e;obtain ⟨j, hj⟩ := X9 h1;have := CZ1 hs hx hj h2.symm;subst this;rw [hx] at hj; exact hj.symm
theorem CZ2 {l : List D1} (hs : l.Pairwise fun a b => a.Txn < b.Txn) {i : Nat} {x : D1} (hx : l[i]? = some x) : o7 l x.Txn = l.eraseIdx i := by
  have h1 : ∀ (l : List D1) (i : Nat) (x : D1), l[i]? = some x → (∀ j y, l[j]? = some y → y.Txn = x.Txn → j = i) → o7 l x.Txn = l.eraseIdx i := by
    intro l;induction l with
    | nil => intro i x h; simp at h
    | cons g l ih =>
      intro i x h hu
      cases i with
      | zero =>
        simp at h; subst h;rw [BP7];unfold o7;rw [List.filter_cons_of_neg Z1, List.filter_eq_self];intro y hy;obtain ⟨j, hj⟩ := X9 hy;simp only [BA6, ne_eq];intro e;have := hu (j + 1) y (by simpa using hj) e;omega
      | succ i =>
        rw [BG1, ← ih i x AO9 fun j y hj e => by have := hu (j + 1) y (by simpa using hj) e; omega];unfold o7;rw [List.filter_cons_of_pos];simp only [BA6, ne_eq];intro e;have := hu 0 g rfl e;omega
  exact h1 l i x hx fun j y hj e => CZ1 hs hj hx e
theorem CZ3 {l : List D1} {n : Int} (h : AP1 l n = false) : o7 l n = l := by
  unfold o7;rw [List.filter_eq_self];intro y hy;simpa using AS9.1 h y hy
def D1.ocs (h : D1) (x : Value × Value) : List AV := [AV.int h.Txn, AV.int h.Time, AV.int h.Lead, AV.is x.1, AV.is x.2]
def D9.ocs (s : D9) (x : Value × Value) : List AV := [AV.int s.Floor, AV.list 2 (s.Cells.map B1.cs), AV.is x.1, AV.is x.2]
def At3 (s : D9) (r : M5) : D9 × Bool :=
  if r.Yes = true then (match AB3 s.Held r.Txn with
    | none => (T8, false)
    | some h => if r.Time < h.Time then (T8, false) else if (AE2 s.Cells h.Writes r.Time).2 = true then (AI2 s r (if s.Floor < r.Time then r.Time else s.Floor) (AE2 s.Cells h.Writes r.Time).1, true) else (T8, false))
  else (AI2 s r s.Floor s.Cells, true)
def AI9 (s : D9) (r : M5) : D9 × Bool := if (U4 s r).2 = true then ((U4 s r).1, true) else (T8, false)
theorem appR_dec {s : D9} {r : M5} (h4 : r.Kind ≠ 4) (hT : AM2 s.Told r.Txn = false) (h1 : r.Kind ≠ 1) : AI9 s r = At3 s r := by
  unfold AI9 At3 U4;rw [C6 h4, C6 (show ¬ AM2 s.Told r.Txn = true by rw [hT]; decide), C6 h1];by_cases hy : r.Yes = true
  · rw [D0 hy, D0 hy]
    cases AB3 s.Held r.Txn with
    | none => rfl
    | some h =>
      dsimp only;split
      · rfl
      · split
        · rfl
        · rfl
  · rw [C6 hy, C6 hy]; rfl
end Go.M
namespace Go.PQ
open Go.Proofs
open Go Go.AV Go.M
def D1.ow (h : D1) (x : Value × Value) : List Own := [.arr x.1 9 1 (h.Reads.map fun k => [AV.str k]), .arr x.2 67 3 (h.Writes.map A4.cs)]
def D9.ow (s : D9) (x : Value × Value) : List Own := [.arr x.1 239 5 (s.Held.map D1.cs), .arr x.2 244 3 (s.Told.map N1.cs)]
theorem D1.lc (h : D1) (x : Value × Value) : AC1 (D1.ow h x) (D1.ocs h x) h.cs :=
  D5 I0 (D5 I0 (D5 I0 (D5 (K0 (C2 (i := 0) rfl) F6) (D5 (K0 (C2 (i := 1) rfl) F6) d5))))
theorem D9.lc (s : D9) (x : Value × Value) : AC1 (D9.ow s x) (D9.ocs s x) s.cs :=
  D5 I0 (D5 I0 (D5 (K0 (C2 (i := 0) rfl) F6) (D5 (K0 (C2 (i := 1) rfl) F6) d5)))
attribute [local irreducible] OpW OpA OpS AWP J6 L3 K7 OpE K2 H9 K6 Le Ev F7 M7 Int.tmod Int.tdiv IntKind.wrap
theorem Cu1 (h k : D1) (h1 : h.Writes.length ≤ 4611686018427387903) (ha : adj N3 h.Writes = true) (hk : adj N3 k.Writes = true ∧ k.Writes.length ≤ 4611686018427387903) : E1 250 [AV.agg k.cs, AV.eptr h.cs] (AV.bool (Ap3 h k)) := by
  obtain ⟨ka, k1⟩ := hk;refine B3 Tryz.func250 rfl Tryz.ntmps250 rfl ?_;refine R3 ?_;intro b2;refine R6 ?_;refine A1 rfl (A5 rfl Tryz.call251 rfl (Ct9 _ _ W1 W1 AC4 AC4) (A2 (A0 rfl) (A2 (A0 rfl) B0))) ?_;refine R3 ?_;exact D6 rfl (A6 rfl qz9)
theorem Bt6 (l : List B1) (hs : C7 B1.size l ≤ 4194304) : E1 238 [AV.list 2 (l.map B1.cs)] (AV.list 2 (l.map B1.cs)) :=
  L5 (BV9 l hs) fun x h => AX7 B1.lcM h 0 rfl fun o ho => Q2 _ ho
theorem CD6 (l : List B1) (w : List A4) (t : Int) (ho : AH8 l) (hs : C7 B1.size l ≤ 1048576) (hw : C7 A4.size w ≤ 1048576) : E1 244 [AV.list 2 (l.map B1.cs), AV.list 3 (w.map A4.cs), AV.int t] (AV.tup [AV.list 2 ((putCells l w t).1.map B1.cs), AV.bool (putCells l w t).2]) :=
  L5 (CZ0 l w t ho hs hw) fun x h => AK9 (D5 (AX7 B1.lcM h 0 rfl fun o ho => Q2 _ ho) (D5 I0 d5))
theorem Cu2 (r : M5) (hs : r.size ≤ 1048576) : M1 198 [AV.agg r.cs] [] (fun _ : Value × Value => True) (fun x => D1.ow (hOf r) x) (fun x => AV.agg (D1.ocs (hOf r) x)) := by
 obtain ⟨hr1, hr2, hr3, hr4⟩ := Ba4 hs;refine C8 Tryz.func198 rfl Tryz.ntmps198 rfl ?_;refine R3 ?_;intro b1;refine R1 ?_;intro b2;refine R2 ?_;refine O8 _ [(0, false), (1, false), (2, false), (3, false), (4, false), (5, false), (6, false), (7, false), (9, false), (10, false), (8, true), (11, true)] D4 D4 rfl AW7 ?_;refine R10 ?_;refine T4 rfl rfl rfl (P5 [] rfl Tryz.call256 rfl (Bn3 _ W1) (A2 (A0 rfl) B0) rfl) (fun a _ => qz4) ?_;intro x11 ok11;refine T4 rfl rfl rfl (P5 [] rfl Tryz.call77 rfl (BH5 _ W1) (A2 (A0 rfl) B0) rfl) (fun a _ => qz4) ?_;intro x14 ok14;refine R1 ?_;refine O7 2 rfl fun one_x11 => ?_;refine O7 3 rfl fun one_x14 => ?_;refine A1 rfl (Y6 (places := #[(0, 1), (1, 1), (2, 1), (3, 1), (4, 1)]) rfl Tryz.underlying239 Tryz.zeroValue239 (fun w => by kernel_rfl) rfl (D8 (A0 rfl) (W4 _ _) (D8 (A0 rfl) (W4 _ _) (D8 (A0 rfl) (W4 _ _) (D8 (A0 rfl) (K4 one_x11) (D8 (A0 rfl) (K4 one_x14) U1))))) rfl) ?_;refine R3 ?_;exact I4 [2, 2] (x11, x14) (trivial) rfl C1 (M4 rfl (F3 (ys := _) 0 rfl rfl AV5 M2 rfl))
theorem Bj6 (r : M5) (hs : r.size ≤ 1048576) : E1 198 [AV.agg r.cs] (AV.agg (hOf r).cs) :=
  L5 (Cu2 r hs) fun x _ => AK8 (D1.lc _ x)
theorem BW0 (h : D1) (hs : h.size ≤ 1048576) : E1 240 [AV.agg h.cs] (AV.agg h.cs) := by
  refine B3 Tryz.func240 rfl Tryz.ntmps240 rfl ?_;refine R3 ?_;intro b1;refine R1 ?_;intro b2;refine R4 ?_;refine A1 rfl (A5 rfl Tryz.call285 rfl (rec_spec _) J3) ?_;refine A1 rfl (A5 rfl Tryz.call198 rfl (Bj6 (AT4 h) hs) J3) ?_;refine R3 ?_;exact D6 rfl (F3 (ys := _) 0 rfl rfl AV5 M2 rfl)
theorem Ax7 (s : D9) (hs : s.size ≤ 1048576) : M1 192 [AV.agg s.cs] [] (fun _ : Value × Value => True) (fun x => D9.ow s x) (fun x => AV.agg (D9.ocs s x)) := by
 obtain ⟨hs1, hs2, hs3, hs4, hs5⟩ := AA3 hs;refine C8 Tryz.func192 rfl Tryz.ntmps192 rfl ?_;refine R3 ?_;intro b1;refine R1 ?_;intro b2;refine R2 ?_;refine X5 _ 10 (.pure 0 (.pure 1 (.pure 2 (.pure 3 (.pure 4 (.pure 5 (.pure 6 (.e2 7 (.pure 8 (.e1 9 .nil)) 9 (.e1 7 (.pure 8 .nil)))))))))) D4 D4 rfl AW7 ?_;refine R4 ?_;refine K9 rfl rfl rfl (fun ext => A5 rfl Tryz.call238 rfl (Bt6 s.Cells qz8) J3) ?_;refine R2 ?_;refine AL7 ?_ ?_
 ·refine I6 rfl rfl rfl (T2 2 (fun _ => rfl) (P5 [] rfl Tryz.call239 rfl (BN3 _ W1) (A2 (A0 rfl) B0) rfl)) (fun a _ => qz4) ?_;intro x13 ok13;have one_x13 := ok13.2
  replace ok13 := ok13.1
  refine K9 rfl rfl rfl (fun ext => Y6 (places := #[(0, 1), (1, 1), (2, 1), (3, 1)]) rfl d8 Tryz.zeroValue58 (fun w => by kernel_rfl) rfl (D8 (A0 rfl) (W4 _ _) (D8 (A0 rfl) (g8 _ _) (D8 (A0 rfl) (K4 one_x13) U1))) rfl) ?_;refine R1 ?_;refine I6 rfl rfl rfl (X3 rfl Tryz.zeroValue58 rfl) (fun a _ => qz4) ?_;intro b3 _;refine R12 ?_;refine d6 239 5 ?_;refine AWP.le (B8 [4, 0] rfl) ?_;refine J0 [(2, _), (3, _), (16, _), (17, _)] _ (fun (i : Nat) (v : Value) => i ≤ s.Held.length) (fun i v => [.box b3 58 [AV.int s.Floor, AV.list 2 (s.Cells.map B1.cs), AV.is v, AV.is x13], .arr v 239 5 ((s.Held.take i).map D1.cs)]) (fun i v => [(18, AV.int i)]) (fun i v => s.Held.length - i) (0) ((E4)) ?_ (K1 C1 A8) ?_
  ·exact E2 _
  intro i v hinv;refine R5 ?_;refine A3 ?_ ?_
  ·intro h19;have k19 := C5 h19;have hlt : i < s.Held.length := by omega
   obtain ⟨h, hx⟩ := B4 hlt;obtain ⟨g1, g2, g3, g4, g5⟩ := AI6 hs2 hx;refine R5 ?_;refine A1 rfl (D3 rfl F5 M2 (A0 rfl) (A0 rfl) hx qz2) ?_;refine R2 ?_;intro b5;refine R2 ?_;refine M6 5 D4 D4 rfl ?_;refine R3 ?_;refine C0 rfl rfl (A5 rfl Tryz.call240 rfl (BW0 _ W1) (A2 (A0 rfl) B0)) ?_;refine R2 ?_;refine H4 (by' := 72) 2 rfl rfl rfl rfl F5 Tryz.type239 rfl rfl rfl rfl rfl rfl (A0 rfl) (A0 rfl) rfl BW8 ?_;intro v27_1;refine R1 ?_;refine O7 2 rfl fun one_v27_1 => ?_;refine N0 1 rfl rfl rfl (A0 rfl) (A0 rfl) (K4 one_v27_1) rfl AF9 rfl ?_;refine R5 ?_;refine G8 i v (i + 1) (v27_1) ?_ ?_ (Le.trans (B8 [0, 0, 0] rfl) (E5 1 (by exact C3 (fun z => Own.box b3 58 [AV.int s.Floor, AV.list 2 (s.Cells.map B1.cs), AV.is v27_1, AV.is x13] :: Own.arr v27_1 239 5 z :: _) (AK2 (f := D1.cs) hx)) A8))
   ·omega
   omega
  intro h19;have k19 := B9 h19;have hge : i = s.Held.length := by omega
  rw [hge, AJ5];refine R7 ?_;exact I4 [1, 3] (v, x13) (trivial) rfl C1 (M4 rfl (F3 (ys := _) 2 rfl rfl P2 L0 rfl))
 refine I6 rfl rfl rfl (X3 rfl Tryz.zeroValue58 rfl) (fun a _ => qz4) ?_;intro b3 _;refine R1 ?_;refine I6 rfl rfl rfl (T2 3 (fun _ => rfl) (P5 [] rfl Tryz.call239 rfl (BN3 _ W1) (A2 (A0 rfl) B0) rfl)) (fun a _ => qz4) ?_;intro x13 ok13;have one_x13 := ok13.2
 replace ok13 := ok13.1
 refine K9 rfl rfl rfl (fun ext => Y6 (places := #[(0, 1), (1, 1), (2, 1), (3, 1)]) rfl d8 Tryz.zeroValue58 (fun w => by kernel_rfl) rfl (D8 (A0 rfl) (W4 _ _) (D8 (A0 rfl) (g8 _ _) (D8 (A0 rfl) (K4 one_x13) U1))) rfl) ?_;refine R12 ?_;refine d6 239 5 ?_;refine AWP.le (B8 [3, 0] rfl) ?_;refine J0 [(2, _), (3, _), (16, _), (17, _)] _ (fun (i : Nat) (v : Value) => i ≤ s.Held.length) (fun i v => [.box b3 58 [AV.int s.Floor, AV.list 2 (s.Cells.map B1.cs), AV.is v, AV.is x13], .arr v 239 5 ((s.Held.take i).map D1.cs)]) (fun i v => [(18, AV.int i)]) (fun i v => s.Held.length - i) (0) ((E4)) ?_ (K1 C1 A8) ?_
 ·exact E2 _
 intro i v hinv;refine R5 ?_;refine A3 ?_ ?_
 ·intro h19;have k19 := C5 h19;have hlt : i < s.Held.length := by omega
  obtain ⟨h, hx⟩ := B4 hlt;obtain ⟨g1, g2, g3, g4, g5⟩ := AI6 hs2 hx;refine R5 ?_;refine A1 rfl (D3 rfl F5 M2 (A0 rfl) (A0 rfl) hx qz2) ?_;refine R2 ?_;intro b5;refine R2 ?_;refine M6 5 D4 D4 rfl ?_;refine R3 ?_;refine C0 rfl rfl (A5 rfl Tryz.call240 rfl (BW0 _ W1) (A2 (A0 rfl) B0)) ?_;refine R2 ?_;refine H4 (by' := 72) 2 rfl rfl rfl rfl F5 Tryz.type239 rfl rfl rfl rfl rfl rfl (A0 rfl) (A0 rfl) rfl BW8 ?_;intro v27_2;refine R1 ?_;refine O7 2 rfl fun one_v27_2 => ?_;refine N0 1 rfl rfl rfl (A0 rfl) (A0 rfl) (K4 one_v27_2) rfl AF9 rfl ?_;refine R5 ?_;refine G8 i v (i + 1) (v27_2) ?_ ?_ (Le.trans (B8 [0, 0, 0] rfl) (E5 1 (by exact C3 (fun z => Own.box b3 58 [AV.int s.Floor, AV.list 2 (s.Cells.map B1.cs), AV.is v27_2, AV.is x13] :: Own.arr v27_2 239 5 z :: _) (AK2 (f := D1.cs) hx)) A8))
  ·omega
  omega
 intro h19;have k19 := B9 h19;have hge : i = s.Held.length := by omega
 rw [hge, AJ5];refine R7 ?_;exact I4 [1, 3] (v, x13) (trivial) rfl C1 (M4 rfl (F3 (ys := _) 2 rfl rfl P2 L0 rfl))
theorem Cu3 (l : List B1) (w : List A4) (t : Int) : (putCells l w t).2 = (AE2 l w t).2 ∧ ((AE2 l w t).2 = true → (putCells l w t).1 = (AE2 l w t).1) := by
  rw [Ch4]
  cases h : (AE2 l w t).2 <;> simp
theorem Ci6 (s : D9) (r : M5) (hg : m5 s.Cells = true) (hsr : s.Held.Pairwise fun a b => a.Txn < b.Txn) (htr : s.Told.Pairwise fun a b => a.Txn < b.Txn) (hT : AM2 s.Told r.Txn = false) (hs : s.size ≤ 1048576) : M1 194 [AV.agg s.cs, AV.agg r.cs] [] (fun _ : Value × Value => True) (fun x => D9.ow (At3 s r).1 x) (fun x => AV.tup [AV.agg (D9.ocs (At3 s r).1 x), AV.bool (At3 s r).2]) := by
 obtain ⟨hs1, hs2, hs3, hs4, hs5⟩ := AA3 hs;have hco := AU7 hg;have hins : AP2 ⟨r.Txn, r.Yes, r.Time⟩ s.Told = s.Told.take (Ay3 s.Told r.Txn) ++ ⟨r.Txn, r.Yes, r.Time⟩ :: s.Told.drop (Ay3 s.Told r.Txn) := insT_pos htr (by rw [Bg6 htr]; exact hT);obtain ⟨h, hh0⟩ : ∃ h, At2 s.Held r.Txn = true → s.Held[Aa8 s.Held r.Txn]? = some h ∧ h.Txn = r.Txn := by
  cases e : At2 s.Held r.Txn with
  | true => obtain ⟨x, h1, h2⟩ := DC5 e; exact ⟨x, fun _ => ⟨h1, h2⟩⟩
  | false => exact ⟨⟨0, 0, 0, [], []⟩, fun h => by cases h⟩
 have hfd : At2 s.Held r.Txn = true → AB3 s.Held r.Txn = some h := fun e => by obtain ⟨h1, h2⟩ := hh0 e; have := DC6 hsr h1; rw [h2] at this; exact this
 have hfn : At2 s.Held r.Txn = false → AB3 s.Held r.Txn = none := fun e => by rw [BC0 hsr] at e; exact Az7.2 e
 have hrow : At2 s.Held r.Txn = true → (s.Held.map D1.cs)[((Aa8 s.Held r.Txn : Nat) : Int).toNat]? = some h.cs := fun e => by rw [l4, X2, (hh0 e).1]; rfl
 have hplt : At2 s.Held r.Txn = true → Aa8 s.Held r.Txn < s.Held.length := fun e => (E9.1 (hh0 e).1).1;have htle := Cp0 s.Told r.Txn;refine C8 Tryz.func194 rfl Tryz.ntmps194 rfl ?_;refine R3 ?_;intro b2;refine R1 ?_;intro b3;refine R1 ?_;intro b4;refine R5 ?_;refine F8 [] rfl rfl rfl rfl Tryz.call192 rfl (Ax7 s hs) J3 rfl ?_;intro x14 ok14;refine R1 ?_;intro b6;refine R3 ?_;refine G0 AS5 ?_;refine R4 ?_;refine A1 rfl (l8 rfl Tryz.call195 rfl (BV8 s r.Txn hs5) (AX4 (H5 (d4 _ _) (H5 (U0 _) U5))) (P1 (Ac4 (A0 rfl) (AK8 (D5 I0 (D5 I0 (D5 (K0 (C2 (i := 1) rfl) F6) (D5 (K0 (C2 (i := 2) rfl) F6) d5)))))) BC5)) ?_;refine R12 ?_;refine A3 ?_ ?_
 ·intro h23;refine R9 ?_;refine Q4 rfl (Y4 rfl rfl rfl) (fun hc => H6 1 rfl F5 M2 (A9 rfl hc) rfl (A9 rfl hc) qz8 (by have := hplt (by simpa using hc); simp only [A7]; omega)) ?_;refine Q4 rfl (Y4 rfl rfl rfl) (fun hc => L7 1 rfl Tryz.underlying239 rfl E7 (A9 rfl hc) rfl rfl (hrow (by simpa using hc))) ?_;refine Q4 rfl (Y4 rfl rfl rfl) (fun hc => N4 1 rfl (A9 rfl hc) rfl Q8 (hrow (by simpa using hc)) rfl) ?_;refine R5 ?_;refine A3 ?_ ?_
  ·intro h36;have hdec : At3 s r = (T8, false) := by (unfold At3; rw [D0 h23]; cases e : At2 s.Held r.Txn with | false => (rw [hfn e]) | true => (rw [hfd e]; dsimp only; rw [D0 (by rw [e] at h36; simpa using h36)]))
   rw [hdec];refine R7 ?_;refine AN4 3 1 2 rfl rfl U2 ?_;refine Y3 239 5 ?_;refine Y3 244 3 ?_;exact I4 [1, 0] ((E4), (E4)) (trivial) rfl C1 (g9 rfl F1 (I3 (F3 (ys := _) 5 rfl rfl P2 L0 rfl) X8))
  intro h36;simp only [r5, AD5, w5] at h36;obtain ⟨hhas, hnlt⟩ := h36;have hlt := hplt hhas;obtain ⟨g1, g2, g3, g4, g5⟩ := AI6 hs2 (hh0 hhas).1;have hpc := Cu3 s.Cells h.Writes r.Time;refine R8 ?_;refine C0 rfl rfl (H6 1 rfl F5 M2 (A0 rfl) rfl (A0 rfl) qz8 AB7) ?_;refine C0 rfl rfl (L7 1 rfl Tryz.underlying239 rfl Tryz.sizeOf35 (A0 rfl) rfl rfl (hrow hhas)) ?_;refine C0 rfl rfl (N4 1 rfl (A0 rfl) rfl Tryz.isAgg35 (hrow hhas) rfl) ?_;refine R2 ?_;refine C0 rfl rfl (A5 rfl Tryz.call244 rfl (CD6 s.Cells h.Writes r.Time hco hs1 qz8) AA5) ?_;refine R8 ?_;refine G0 AS5 ?_;refine R4 ?_;refine A3 ?_ ?_
  ·intro h53;have hdec : At3 s r = (T8, false) := by (unfold At3; rw [D0 h23, hfd hhas]; dsimp only; rw [C6 qz8, C6 (by rw [← hpc.1]; simpa using h53)])
   rw [hdec];refine R7 ?_;refine AN4 3 1 2 rfl rfl U2 ?_;refine Y3 239 5 ?_;refine Y3 244 3 ?_;exact I4 [1, 0] ((E4), (E4)) (trivial) rfl C1 (g9 rfl F1 (I3 (F3 (ys := _) 5 rfl rfl P2 L0 rfl) X8))
  intro h53;have hok : (putCells s.Cells h.Writes r.Time).2 = true := by simpa using h53
  have hdec : At3 s r = (AI2 s r (if s.Floor < r.Time then r.Time else s.Floor) (putCells s.Cells h.Writes r.Time).1, true) := by (unfold At3; rw [D0 h23, hfd hhas]; dsimp only; rw [C6 qz8, D0 (by rw [← hpc.1]; exact hok), hpc.2 (by rw [← hpc.1]; exact hok)])
  refine R12 ?_;refine A1 rfl (w_max rfl (A0 rfl) (A0 rfl)) ?_;refine R5 ?_;refine G0 AS5 ?_;refine R3 ?_;refine A3 ?_ ?_
  ·intro h63;have hless : o7 s.Held r.Txn = s.Held.eraseIdx (Aa8 s.Held r.Txn) := by (rw [← (hh0 h63).2]; exact CZ2 hsr (hh0 h63).1 ▸ by rw [(hh0 h63).2])
   rw [hdec];unfold AI2;rw [hless, hins];have hlt2 := hplt h63;refine R6 ?_;refine F8 [1] rfl rfl rfl rfl Tryz.call245 rfl (BN4 _ s.Held (Aa8 s.Held r.Txn) hlt2 qz8) (A2 (A0 rfl) (A2 (A0 rfl) (A2 (A0 rfl) B0))) rfl ?_;intro x69 ok69;refine R1 ?_;refine O7 0 rfl fun one_x69 => ?_;refine N0 1 rfl rfl rfl (A0 rfl) (A0 rfl) (K4 one_x69) rfl AF9 rfl ?_;refine R2 ?_;refine G0 AS5 ?_;refine R4 ?_;refine A1 rfl (l8 rfl Tryz.call193 rfl (Ad7 _ _ _ s.Told r.Txn hs3) (AX4 (H5 (d4 _ _) (H5 (U0 _) U5))) (P1 (Ac4 (A0 rfl) (AK8 (D5 I0 (D5 I0 (D5 (K0 (C2 (i := 0) rfl) F6) (D5 (K0 (C2 (i := 2) rfl) F6) d5)))))) BC5)) ?_;refine R7 ?_;refine G0 AS5 ?_;refine R11 ?_;refine Ag0 rfl rfl rfl rfl P7 Y1 Tryz.zeroValue244 rfl rfl rfl rfl (D8 (A0 rfl) (Z2 _) U1) rfl rfl ?_;intro v88;refine F8 [3, 0] rfl rfl rfl rfl Tryz.call246 rfl (Ag5 _ _ s.Told ⟨r.Txn, r.Yes, r.Time⟩ (Ay3 s.Told r.Txn) htle qz8) (A2 (A0 rfl) (A2 (A0 rfl) (A2 (A0 rfl) B0))) rfl ?_;intro x89 ok89;refine R1 ?_;refine O7 0 rfl fun one_x89 => ?_;refine N0 2 rfl rfl rfl (A0 rfl) (A0 rfl) (K4 one_x89) rfl Tryz.sizeOf56 rfl ?_;refine R2 ?_;refine G0 AS5 ?_;refine R6 ?_;exact I4 [1, 0] (x69, x89) (trivial) rfl C1 (g9 rfl F1 (I3 (F3 (ys := _) 3 rfl rfl P2 L0 rfl) X8))
  intro h63;have hless : o7 s.Held r.Txn = s.Held := CZ3 (by rw [← BC0 hsr]; exact h63);rw [hdec];unfold AI2;rw [hless, hins];refine R2 ?_;refine G0 AS5 ?_;refine R4 ?_;refine A1 rfl (l8 rfl Tryz.call193 rfl (Ad7 _ _ _ s.Told r.Txn hs3) (AX4 (H5 (d4 _ _) (H5 (U0 _) U5))) (P1 (Ac4 (A0 rfl) (AK8 (D5 I0 (D5 I0 (D5 (K0 (C2 (i := 1) rfl) F6) (D5 (K0 (C2 (i := 2) rfl) F6) d5)))))) BC5)) ?_;refine R7 ?_;refine G0 AS5 ?_;refine R11 ?_;refine Ag0 rfl rfl rfl rfl P7 Y1 Tryz.zeroValue244 rfl rfl rfl rfl (D8 (A0 rfl) (Z2 _) U1) rfl rfl ?_;intro v88;refine F8 [3, 0] rfl rfl rfl rfl Tryz.call246 rfl (Ag5 _ _ s.Told ⟨r.Txn, r.Yes, r.Time⟩ (Ay3 s.Told r.Txn) htle qz8) (A2 (A0 rfl) (A2 (A0 rfl) (A2 (A0 rfl) B0))) rfl ?_;intro x89 ok89;refine R1 ?_;refine O7 0 rfl fun one_x89 => ?_;refine N0 1 rfl rfl rfl (A0 rfl) (A0 rfl) (K4 one_x89) rfl Tryz.sizeOf56 rfl ?_;refine R2 ?_;refine G0 AS5 ?_;refine R6 ?_;exact I4 [2, 0] (x14.1, x89) (trivial) rfl C1 (g9 rfl F1 (I3 (F3 (ys := _) 3 rfl rfl P2 L0 rfl) X8))
 intro h23;have hdec : At3 s r = (AI2 s r s.Floor s.Cells, true) := by (unfold At3; rw [C6 (by rw [h23]; decide)])
 refine R3 ?_;refine G0 AS5 ?_;refine R3 ?_;refine A3 ?_ ?_
 ·intro h63;have hless : o7 s.Held r.Txn = s.Held.eraseIdx (Aa8 s.Held r.Txn) := by (rw [← (hh0 h63).2]; exact CZ2 hsr (hh0 h63).1 ▸ by rw [(hh0 h63).2])
  rw [hdec];unfold AI2;rw [hless, hins];have hlt2 := hplt h63;refine R6 ?_;refine F8 [1] rfl rfl rfl rfl Tryz.call245 rfl (BN4 _ s.Held (Aa8 s.Held r.Txn) hlt2 qz8) (A2 (A0 rfl) (A2 (A0 rfl) (A2 (A0 rfl) B0))) rfl ?_;intro x69 ok69;refine R1 ?_;refine O7 0 rfl fun one_x69 => ?_;refine N0 1 rfl rfl rfl (A0 rfl) (A0 rfl) (K4 one_x69) rfl AF9 rfl ?_;refine R2 ?_;refine G0 AS5 ?_;refine R4 ?_;refine A1 rfl (l8 rfl Tryz.call193 rfl (Ad7 _ _ _ s.Told r.Txn hs3) (AX4 (H5 (d4 _ _) (H5 (U0 _) U5))) (P1 (Ac4 (A0 rfl) (AK8 (D5 I0 (D5 I0 (D5 (K0 (C2 (i := 0) rfl) F6) (D5 (K0 (C2 (i := 2) rfl) F6) d5)))))) BC5)) ?_;refine R7 ?_;refine G0 AS5 ?_;refine R11 ?_;refine Ag0 rfl rfl rfl rfl P7 Y1 Tryz.zeroValue244 rfl rfl rfl rfl (D8 (A0 rfl) (Z2 _) U1) rfl rfl ?_;intro v88;refine F8 [3, 0] rfl rfl rfl rfl Tryz.call246 rfl (Ag5 _ _ s.Told ⟨r.Txn, r.Yes, r.Time⟩ (Ay3 s.Told r.Txn) htle qz8) (A2 (A0 rfl) (A2 (A0 rfl) (A2 (A0 rfl) B0))) rfl ?_;intro x89 ok89;refine R1 ?_;refine O7 0 rfl fun one_x89 => ?_;refine N0 2 rfl rfl rfl (A0 rfl) (A0 rfl) (K4 one_x89) rfl Tryz.sizeOf56 rfl ?_;refine R2 ?_;refine G0 AS5 ?_;refine R6 ?_;exact I4 [1, 0] (x69, x89) (trivial) rfl C1 (g9 rfl F1 (I3 (F3 (ys := _) 3 rfl rfl P2 L0 rfl) X8))
 intro h63;have hless : o7 s.Held r.Txn = s.Held := CZ3 (by rw [← BC0 hsr]; exact h63);rw [hdec];unfold AI2;rw [hless, hins];refine R2 ?_;refine G0 AS5 ?_;refine R4 ?_;refine A1 rfl (l8 rfl Tryz.call193 rfl (Ad7 _ _ _ s.Told r.Txn hs3) (AX4 (H5 (d4 _ _) (H5 (U0 _) U5))) (P1 (Ac4 (A0 rfl) (AK8 (D5 I0 (D5 I0 (D5 (K0 (C2 (i := 1) rfl) F6) (D5 (K0 (C2 (i := 2) rfl) F6) d5)))))) BC5)) ?_;refine R7 ?_;refine G0 AS5 ?_;refine R11 ?_;refine Ag0 rfl rfl rfl rfl P7 Y1 Tryz.zeroValue244 rfl rfl rfl rfl (D8 (A0 rfl) (Z2 _) U1) rfl rfl ?_;intro v88;refine F8 [3, 0] rfl rfl rfl rfl Tryz.call246 rfl (Ag5 _ _ s.Told ⟨r.Txn, r.Yes, r.Time⟩ (Ay3 s.Told r.Txn) htle qz8) (A2 (A0 rfl) (A2 (A0 rfl) (A2 (A0 rfl) B0))) rfl ?_;intro x89 ok89;refine R1 ?_;refine O7 0 rfl fun one_x89 => ?_;refine N0 1 rfl rfl rfl (A0 rfl) (A0 rfl) (K4 one_x89) rfl Tryz.sizeOf56 rfl ?_;refine R2 ?_;refine G0 AS5 ?_;refine R6 ?_;exact I4 [2, 0] (x14.1, x89) (trivial) rfl C1 (g9 rfl F1 (I3 (F3 (ys := _) 3 rfl rfl P2 L0 rfl) X8))
end Go.PQ
namespace Go.M
open Go.AV
theorem Cp1 (s : D9) (r : M5) : (AI9 s r).2 = (U4 s r).2 ∧ ((U4 s r).2 = true → (AI9 s r).1 = (U4 s r).1) := by
  unfold AI9; cases h : (U4 s r).2 <;> simp
theorem DC7 (s : D9) (r : M5) : (if (AI9 s r).2 = true then (AI9 s r).1 else s) = AD8 s r := by
  unfold AD8 AI9; cases h : (U4 s r).2 <;> simp
theorem Ci7 {s : D9} {l : List M5} {i : Nat} {r : M5} (h : l[i]? = some r) : V9 s (l.take (i + 1)) = AD8 (V9 s (l.take i)) r := by
  unfold V9;rw [T5, h, List.foldl_append]; rfl
theorem BN6 : ∀ {l : List M5} {s : D9} {r : M5}, AW0 s (l ++ [r]) = AW0 s l ++ [(U4 (V9 s l) r).2]
  | [], s, r => rfl
  | x :: l, s, r => by
    show _ :: AW0 (AD8 s x) (l ++ [r]) = _
    rw [BN6]; rfl
theorem An4 {s : D9} {l : List M5} {i : Nat} {r : M5} (h : l[i]? = some r) : AW0 s (l.take (i + 1)) = AW0 s (l.take i) ++ [(U4 (V9 s (l.take i)) r).2] := by
  rw [T5, h]; exact BN6
def phi (s : D9) : Nat := C7 B1.size s.Cells + 3 * C7 D1.size s.Held + s.Told.length
theorem CZ4 (s : D9) : s.size ≤ phi s := by
  have h1 : s.size = C7 B1.size s.Cells + C7 D1.size s.Held + s.Told.length := rfl;unfold phi; omega
theorem Cu4 {α : Type} {f : α → Nat} {a b : List α} (h : a.Perm b) : C7 f a = C7 f b := by
  unfold C7; rw [h.length_eq, (h.map f).sum_nat]
theorem CZ5 {t : Int} : ∀ {w : List A4} {l q : List B1}, Z4 l w t = some q → C7 B1.size q ≤ C7 B1.size l + 2 * C7 A4.size w
  | [], l, q, h => by simp [Z4] at h; subst h; omega
  | x :: w, l, q, h => by
    unfold Z4 at h;split at h
    · cases h
    · have h1 := CZ5 h
      have h2 := AX8 l x t;rw [X0]; omega
theorem Cu5 {l : List D1} {n : Int} {h : D1} (hf : AB3 l n = some h) : C7 D1.size (o7 l n) + (1 + h.size) ≤ C7 D1.size l := by
  induction l with
  | nil => simp [AB3] at hf
  | cons g l ih =>
    unfold AB3 at hf ih;rw [List.find?_cons] at hf;unfold o7 at ih ⊢;by_cases e : g.Txn = n
    · rw [j0.2 e] at hf
      injection hf with hf; subst hf
      rw [List.filter_cons_of_neg (by simp [e]), X0];have : C7 D1.size (l.filter fun h => h.Txn != n) ≤ C7 D1.size l := by
        clear ih;induction l with
        | nil => exact K5 _
        | cons y l ih =>
          rw [List.filter_cons];split
          · rw [X0, X0]; omega
          · rw [X0]; omega
      omega
    · rw [beq_eq_false_iff_ne.2 e] at hf
      rw [List.filter_cons_of_pos (by simp [e]), X0, X0];have := ih hf; omega
theorem Ci8 (l : List D1) (n : Int) : C7 D1.size (o7 l n) ≤ C7 D1.size l := by
  induction l with
  | nil => exact K5 _
  | cons y l ih =>
    unfold o7 at ih ⊢;rw [List.filter_cons];split
    · rw [X0, X0]; omega
    · rw [X0]; omega
theorem DC8 (s : D9) (r : M5) : phi (U4 s r).1 ≤ phi s + 3 * (1 + r.size) + 1 := by
  have hh : (hOf r).size = r.size := rfl;have hins : C7 D1.size (AT5 (hOf r) s.Held) = 1 + r.size + C7 D1.size s.Held := by rw [Cu4 (Aw3 _ _), X0, hh]
  have htl : ∀ t : N1, (AP2 t s.Told).length = s.Told.length + 1 := fun t => by rw [(BZ4 _ _).length_eq]; rfl
  have h2 := Ci8 s.Held r.Txn;unfold U4;split
  · unfold phi; dsimp only; omega
  · split
    · dsimp only; omega
    · split
      · unfold phi; dsimp only; rw [hins]; omega
      · split
        · cases hf : AB3 s.Held r.Txn with
          | none => dsimp only; omega
          | some h =>
            dsimp only;split
            · dsimp only; omega
            · split
              · rename_i hp
                have h3 := CZ5 (Bg3 hp).1;have h4 := Cu5 hf;have h5 : h.size = C7 (fun x => x.length) h.Reads + C7 A4.size h.Writes := rfl;unfold AI2 phi; dsimp only; rw [htl]; omega
              · dsimp only; omega
        · unfold AI2 phi; dsimp only; rw [htl]; omega
theorem phi_step (s : D9) (r : M5) : phi (AD8 s r) ≤ phi s + 3 * (1 + r.size) + 1 := by
  unfold AD8;split
  · exact DC8 s r
  · omega
theorem Bn7 {m : Nat} : ∀ {l : List M5} {s : D9}, (∀ r ∈ l, r.size ≤ m) → phi (V9 s l) ≤ phi s + l.length * (3 * (1 + m) + 1)
  | [], s, _ => by simp [V9]
  | r :: l, s, h => by
    have h1 := phi_step s r;have h2 := Bn7 (l := l) (s := AD8 s r) fun x hx => h x (Q2 _ hx);have h3 := h r Y9;have h4 : V9 s (r :: l) = V9 (AD8 s r) l := rfl;rw [h4, H8, Nat.add_mul, Nat.one_mul];omega
theorem AP7 {r : M5} (h : S1 r = true) : r.size ≤ 400 := by
  have g := goodR h;have h1 : C7 (fun x : Str => x.length) r.Reads ≤ r.Reads.length * 13 := y5 fun x hx => Bs0 (g.reads.2 x hx);have h2 : C7 A4.size r.Writes ≤ r.Writes.length * 37 := y5 (f := A4.size) fun x hx => by
    have := g.writes.2 x hx;have k1 := Bs0 this.1;have k2 := Cs3 this.2.1;show x.Key.length + x.Val.length ≤ 36
    omega
  have h3 : r.size = C7 (fun x : Str => x.length) r.Reads + C7 A4.size r.Writes := rfl;have := g.reads.1;have := g.writes.1;omega
def AN8 (l : List D1) (k : Str) (t : Int) : List Int := (l.filter fun h => AN7 h.Writes k && decide (h.Time ≤ t)).map D1.Txn
def zTold : N1 := ⟨0, false, 0⟩
def zHeld : D1 := ⟨0, 0, 0, [], []⟩
theorem Cu6 {l : List N1} {n : Int} : BV2 l n = none ↔ AM2 l n = false := by
  unfold BV2 AM2; rw [List.find?_eq_none, List.any_eq_false]
theorem Bt7 {l : List D1} {i : Nat} {h : D1} {k : Str} {t : Int} (hx : l[i]? = some h) (hc : (AN7 h.Writes k && decide (h.Time ≤ t)) = true) : AN8 (l.take (i + 1)) k t = AN8 (l.take i) k t ++ [h.Txn] := by
  unfold AN8; rw [T5, hx, List.filter_append, X1];show _ ++ List.map _ (List.filter _ [h]) = _
  rw [List.filter_cons_of_pos (p := fun h : D1 => AN7 h.Writes k && decide (h.Time ≤ t)) hc]; rfl
theorem CJ9 {l : List D1} {i : Nat} {h : D1} {k : Str} {t : Int} (hx : l[i]? = some h) (hc : (AN7 h.Writes k && decide (h.Time ≤ t)) = false) : AN8 (l.take (i + 1)) k t = AN8 (l.take i) k t := by
  unfold AN8; rw [T5, hx, List.filter_append, X1];show _ ++ List.map _ (List.filter _ [h]) = _
  rw [List.filter_cons_of_neg (p := fun h : D1 => AN7 h.Writes k && decide (h.Time ≤ t)) (by rw [hc]; decide)]; simp
theorem Cu7 (l : List D1) (k : Str) (t : Int) : (AN8 l k t).length ≤ l.length := by unfold AN8; rw [A7]; exact List.length_filter_le _ _
theorem Cu8 {s : D9} (g : GS s) {h : D1} (hm : h ∈ s.Held) : 1 ≤ h.Time ∧ h.Time ≤ 100000 ∧ adj N3 h.Writes = true := by
  obtain ⟨g1, g2, g3⟩ := g.good h hm;have h1 := g1;unfold S1 AT4 at h1;rw [D0 rfl] at h1;unfold Av3 AR9 within at h1
  simp only [E8, H1] at h1;exact ⟨by omega, by omega, Bn6 g1⟩
end Go.M
namespace Go.PQ
open Go.Proofs
open Go Go.AV Go.M
attribute [local irreducible] OpW OpA OpS AWP J6 L3 K7 OpE K2 H9 K6 Le Ev F7 M7 Int.tmod Int.tdiv IntKind.wrap
theorem room_app (s : D9) (e : List (List AV)) (l : List D1) (rs : List Str) (ws : List A4) (he : e = (l ++ [(⟨0, 0, 0, rs, ws⟩ : D1)]).map D1.cs) (hg : m5 s.Cells = true) (hs : s.size ≤ 1048576) (hh : C7 D1.size (l ++ [(⟨0, 0, 0, rs, ws⟩ : D1)]) ≤ 1048576) : E1 252 [AV.agg s.cs, AV.list 5 e] (AV.bool (decide (l.length < 12) && room s.Cells (hWs l ++ ws))) := by
  have h := DC1 s (l ++ [(⟨0, 0, 0, rs, ws⟩ : D1)]) hg hs hh;have e1 : hWs (l ++ [(⟨0, 0, 0, rs, ws⟩ : D1)]) = hWs l ++ ws := by rw [BR9, As0]; simp [hWs]
  rw [e1, ← he] at h;have e2 : decide ((l ++ [(⟨0, 0, 0, rs, ws⟩ : D1)]).length ≤ 12) = decide (l.length < 12) := by rw [H3, decide_eq_decide]; simp; omega
  rw [e2] at h;exact h
theorem DC9 (s : D9) (rs : List Str) (ws : List A4) (hg : j8 s = true) (hs : s.size ≤ 500000) (hw : C7 (fun x : Str => x.length) rs + C7 A4.size ws ≤ 500000) (hwa : adj N3 ws = true) : E1 196 [AV.agg s.cs, strs rs, AV.list 3 (ws.map A4.cs)] (AV.bool (fits s rs ws)) := by
 have g := AH0.1 hg;obtain ⟨hs1, hs2, hs3, hs4, hs5⟩ := AA3 hs;have hwl := L9 (f := A4.size) (l := ws);have hl9 : (⟨0, 0, 0, rs, ws⟩ : D1).Writes.length ≤ 4611686018427387903 := by show ws.length ≤ _; omega
 have ha9 : adj N3 (⟨0, 0, 0, rs, ws⟩ : D1).Writes = true := hwa;have hpre : ∀ k ∈ s.Held, adj N3 k.Writes = true ∧ k.Writes.length ≤ 4611686018427387903 := fun k hk => by
  obtain ⟨i, hi⟩ := X9 hk;have := AI6 hs2 hi;exact ⟨Bn6 (g.good k hk).1, by omega⟩
 have hany : (s.Held.any fun k => Ap3 ⟨0, 0, 0, rs, ws⟩ k) = !(s.Held.all fun k => apart k rs ws) := by
  rw [List.not_all_eq_any_not]; congr 1; funext k; rw [BK4]
 have hsz : C7 D1.size (s.Held ++ [⟨0, 0, 0, rs, ws⟩]) ≤ 1048576 := by
  rw [Ad2, X0];show _ + (1 + (C7 (fun x : Str => x.length) rs + C7 A4.size ws) + 0) ≤ _
  omega
 refine B3 Tryz.func196 rfl Tryz.ntmps196 rfl ?_;refine R3 ?_;intro b3;refine R8 ?_;intro b7;refine R4 ?_;refine G0 (show _ = [Own.box b7 239 (D1.cs ⟨0, 0, 0, rs, ws⟩), Own.box b3 58 s.cs] from rfl) ?_;refine R3 ?_;refine A1 rfl (BG6 rfl rfl J3) ?_;refine A1 rfl (l8 rfl Tryz.call249 rfl (BM9 s.Held (fun g => adj N3 g.Writes = true ∧ g.Writes.length ≤ 4611686018427387903) (fun k => Ap3 ⟨0, 0, 0, rs, ws⟩ k) hpre) (U0 _) (P1 (evb (A0 rfl)) (P1 (AQ4 (Ar2 0 (A0 rfl) rfl) (Ac1 Tryz.call250 (fun g hg => Cu1 _ g W1 AC4 hg))) m8))) ?_;refine R1 ?_;refine A3 ?_ ?_
 ·intro h14;refine R5 ?_;exact D6 rfl (A6 rfl qz107)
 intro h14;refine R2 ?_;refine O8 _ [(0, false), (1, false), (2, false), (4, false), (5, false), (3, true), (6, true)] D4 D4 rfl AW7 ?_;refine R5 ?_;refine T4 rfl rfl rfl (P5 [] rfl Tryz.call253 rfl (CC5 _ W1) (A2 (A0 rfl) B0) rfl) (fun a _ => qz4) ?_;intro x18 ok18;refine T4 rfl rfl rfl (L4 (by' := 72) 2 rfl F5 Tryz.type239 rfl rfl rfl rfl rfl rfl (A0 rfl) (A0 rfl) rfl qz2) (fun a _ => qz4) ?_;intro v21_1 _;refine R1 ?_;refine A1 rfl (l8 rfl Tryz.call252 rfl (room_app s _ s.Held rs ws (by rw [X1]; rfl) g.cells qz8 hsz) (U0 _) (P1 (evb (A0 rfl)) (P1 (Al1 2 (A0 rfl) rfl) m8))) ?_;refine R3 ?_;exact D6 rfl (A6 rfl qz107)
theorem Ci9 (s : D9) (r : M5) (hg : j8 s = true) (hr : S1 r = true) (hs : s.size ≤ 400000) : M1 161 [AV.agg s.cs, AV.agg r.cs] [] (fun _ : Value × Value => True) (fun x => D9.ow (AI9 s r).1 x) (fun x => AV.tup [AV.agg (D9.ocs (AI9 s r).1 x), AV.bool (AI9 s r).2]) := by
 have g := AH0.1 hg;have hgc := g.cells;have hsr := g.hsort;have htr := g.tsort;obtain ⟨hs1, hs2, hs3, hs4, hs5⟩ := AA3 hs;have hrs := AP7 hr;have hrs2 : r.size = C7 (fun x : Str => x.length) r.Reads + C7 A4.size r.Writes := rfl;have hple := Co9 s.Held r.Txn;refine C8 Tryz.func161 rfl Tryz.ntmps161 rfl ?_;refine R3 ?_;intro b2;refine R1 ?_;intro b3;refine R1 ?_;intro b4;refine R9 ?_;refine A3 ?_ ?_
 ·intro h14;have hk : r.Kind = 4 := by simpa using h14
  refine R9 ?_;refine A3 ?_ ?_
  ·intro h19;have k19 := C5 h19;have he : AI9 s r = (T8, false) := by (unfold AI9 U4; rw [D0 hk, C6 AB6])
   rw [he];refine R7 ?_;refine AN4 0 1 2 rfl rfl U2 ?_;refine Y3 239 5 ?_;refine Y3 244 3 ?_;exact I4 [1, 0] ((E4), (E4)) (trivial) rfl C1 (g9 rfl F1 (I3 (F3 (ys := _) 2 rfl rfl P2 L0 rfl) X8))
  intro h19;have k19 := B9 h19;have he : AI9 s r = (⟨r.Time, s.Cells, s.Held, s.Told⟩, true) := by (unfold AI9 U4; rw [D0 hk, D0 AB6])
  rw [he];refine R4 ?_;refine F8 [] rfl rfl rfl rfl Tryz.call192 rfl (Ax7 s qz8) J3 rfl ?_;intro x22 ok22;refine R1 ?_;intro b6;refine R3 ?_;refine G0 AS5 ?_;refine R7 ?_;refine G0 AS5 ?_;refine R6 ?_;exact I4 [1, 1] (x22.1, x22.2) (trivial) rfl C1 (g9 rfl F1 (I3 (F3 (ys := _) 3 rfl rfl P2 L0 rfl) X8))
 intro h14;have hk4 : r.Kind ≠ 4 := by simpa using h14
 refine R7 ?_;refine A1 rfl (A5 rfl Tryz.call193 rfl (CO2 s r.Txn qz8) F0) ?_;refine R10 ?_;refine A3 ?_ ?_
 ·intro h34;have hT : AM2 s.Told r.Txn = true := by (rw [← Bg6 htr]; exact h34)
  have he : AI9 s r = (T8, false) := by (unfold AI9 U4; rw [C6 hk4, D0 hT]; rfl)
  rw [he];refine R7 ?_;refine AN4 0 1 2 rfl rfl U2 ?_;refine Y3 239 5 ?_;refine Y3 244 3 ?_;exact I4 [1, 0] ((E4), (E4)) (trivial) rfl C1 (g9 rfl F1 (I3 (F3 (ys := _) 2 rfl rfl P2 L0 rfl) X8))
 intro h34;have hT : AM2 s.Told r.Txn = false := by (rw [← Bg6 htr]; exact h34)
 refine R8 ?_;refine A3 ?_ ?_
 ·intro h38;have hk1 : r.Kind ≠ 1 := by simpa using h38
  rw [appR_dec hk4 hT hk1];refine R4 ?_;refine F8 [] rfl rfl rfl rfl Tryz.call194 rfl (Ci6 s r hgc hsr htr hT qz8) F0 rfl ?_;intro x41 ok41;refine R6 ?_;exact I4 [0, 0] (x41.1, x41.2) (trivial) rfl C1 (g9 rfl F1 (I3 (F3 (ys := _) 2 rfl rfl P2 L0 rfl) X8))
 intro h38;have hk1 : r.Kind = 1 := by simpa using h38
 have hwa : adj N3 r.Writes = true := by (rw [← CY0 hr hk1] at hr; exact Bn6 hr)
 refine R6 ?_;refine A1 rfl (A5 rfl Tryz.call195 rfl (BV8 s r.Txn qz8) F0) ?_;refine R23 ?_;refine Q7 rfl (fun hc => A5 rfl Tryz.call196 rfl (DC9 s r.Reads r.Writes hg qz8 qz8 hwa) (A2 (A9 rfl hc) (A2 (A9 rfl hc) (A2 (A9 rfl hc) B0)))) ?_;refine R3 ?_;refine A3 ?_ ?_
 ·intro h67;have he : AI9 s r = (T8, false) := by (unfold AI9 U4; rw [C6 hk4, C6 (show ¬ AM2 s.Told r.Txn = true by rw [hT]; decide), D0 hk1, C6 (by rw [← BC0 hsr]; intro h; simp only [E8, i6, H1] at h; rw [h.1.1, h.2, AJ6 qz8] at h67; simp at h67)])
  rw [he];refine R7 ?_;refine AN4 0 1 2 rfl rfl U2 ?_;refine Y3 239 5 ?_;refine Y3 244 3 ?_;exact I4 [1, 0] ((E4), (E4)) (trivial) rfl C1 (g9 rfl F1 (I3 (F3 (ys := _) 2 rfl rfl P2 L0 rfl) X8))
 intro h67;simp only [r5, AD5, w5] at h67;obtain ⟨⟨q1, q2⟩, q3⟩ := h67;have he : AI9 s r = (⟨r.Time, s.Cells, AT5 (hOf r) s.Held, s.Told⟩, true) := by (unfold AI9 U4; rw [C6 hk4, C6 (show ¬ AM2 s.Told r.Txn = true by rw [hT]; decide), D0 hk1, D0 (by rw [← BC0 hsr, q1, q3, i7 (show s.Floor < r.Time by omega)]; rfl)])
 have hins : AT5 (hOf r) s.Held = s.Held.take (Aa8 s.Held r.Txn) ++ hOf r :: s.Held.drop (Aa8 s.Held r.Txn) := insH_pos (h := hOf r) hsr q1;rw [he, hins];refine R4 ?_;refine F8 [] rfl rfl rfl rfl Tryz.call192 rfl (Ax7 s qz8) J3 rfl ?_;intro x70 ok70;refine R1 ?_;intro b11;refine R3 ?_;refine G0 AS5 ?_;refine AWP.le (B8 [0, 3] rfl) ?_;refine O8 _ [(0, false), (1, false), (2, false), (3, false), (4, false), (5, true), (6, true)] D4 D4 rfl (S3 2) ?_;refine R4 ?_;refine P4 rfl rfl rfl (fun ext => A5 rfl Tryz.call198 rfl (Bj6 r qz8) J3) ?_;refine T4 rfl rfl rfl (Az5 rfl F5 M2 Tryz.zeroValue239 rfl rfl rfl rfl (D8 (A0 rfl) (Z2 _) U1) rfl rfl) (fun a _ => qz4) ?_;intro v76 _;refine T4 rfl rfl rfl (P5 [2, 5] rfl Tryz.call197 rfl (CC7 _ _ s.Held (hOf r) (Aa8 s.Held r.Txn) hple qz8) (A2 (A0 rfl) (A2 (A0 rfl) (A2 (A0 rfl) B0))) rfl) (fun a _ => qz4) ?_;intro x77 ok77;refine R2 ?_;refine O7 5 rfl fun one_x77 => ?_;refine N0 0 rfl rfl rfl (A0 rfl) (A0 rfl) (K4 one_x77) rfl AF9 rfl ?_;refine R2 ?_;refine G0 AS5 ?_;refine R7 ?_;refine G0 AS5 ?_;refine R6 ?_;exact I4 [5, 2] (x77, x70.2) (trivial) rfl C1 (g9 rfl F1 (I3 (F3 (ys := _) 3 rfl rfl P2 L0 rfl) X8))
end Go.PQ
namespace Go.PQ
open Go.Proofs
open Go Go.AV Go.M
attribute [local irreducible] OpW OpA OpS AWP J6 L3 K7 OpE K2 H9 K6 Le Ev F7 M7 Int.tmod Int.tdiv IntKind.wrap
theorem CZ6 (s : D9) (r : M5) (hg : j8 s = true) (hr : S1 r = true) (hs : s.size ≤ 400000) : E1 161 [AV.agg s.cs, AV.agg r.cs] (AV.tup [AV.agg (AI9 s r).1.cs, AV.bool (AI9 s r).2]) :=
  L5 (Ci9 s r hg hr hs) fun x _ => AK9 (D5 (AK8 (D9.lc _ x)) (D5 I0 d5))
theorem Cj0 (l : List M5) (hg : ∀ r ∈ l, S1 r = true) (hl : l.length ≤ 60) : M1 132 [AV.list 7 (l.map M5.cs)] [] (fun _ : Value => True) (fun x => [.arr x 4 1 ((AW0 T8 l).map fun b => [AV.bool b])]) (fun x => AV.tup [AV.agg (V9 T8 l).cs, AV.is x]) := by
 have hgs : ∀ i, GS (V9 T8 (l.take i)) := fun i => CC2 BM5 fun r hr => hg r (AU0 hr);have hsz : ∀ i, (V9 T8 (l.take i)).size ≤ 400000 := fun i => by
  have h1 := CZ4 (V9 T8 (l.take i));have h2 := Bn7 (m := 400) (s := T8) (l := l.take i) fun r hr => AP7 (hg r (AU0 hr));have h3 : phi T8 = 0 := rfl;have h4 : (l.take i).length ≤ 60 := by rw [F4]; omega
  omega
 refine C8 Tryz.func132 rfl Tryz.ntmps132 rfl ?_;refine R3 ?_;intro b2;refine A1 rfl (G1 rfl I9) ?_;refine R5 ?_;intro b4;refine R3 ?_;refine AWP.le (Ag1 0 1 2 rfl rfl U2) ?_;refine AWP.le (Ag1 0 2 5 rfl rfl U2) ?_;refine AWP.le (Ag1 0 3 3 rfl rfl U2) ?_;refine R1 ?_;refine P6 rfl rfl rfl rfl s0 V0 ?_;intro v11;refine R10 ?_;refine AWP.le (B8 [1, 0] rfl) ?_;refine W7 [(2, _), (3, _), (4, _), (12, _), (13, _)] _ (fun (i : Nat) (v : Value) (bs : List Bool) => i ≤ l.length ∧ bs = AW0 T8 (l.take i) ∧ bs.length ≤ i) (fun i v bs => [.box b4 58 (V9 T8 (l.take i)).cs, .arr v 4 1 (bs.map fun b => [AV.bool b])]) (fun i v bs => [(5, AV.is v), (14, AV.int i)]) (fun i v bs => l.length - i) (0) (v11) ([]) ?_ (K1 C1 A8) ?_
 ·exact ⟨E2 _, rfl, K5 _⟩
 intro i v bs hinv;refine R5 ?_;refine A3 ?_ ?_
 ·intro h15;have k15 := C5 h15;have hlt : i < l.length := by omega
  obtain ⟨r, hx⟩ := B4 hlt;have hgr := hg r (C2 hx);have hgi := AH0.2 (hgs i);have hsi := hsz i;have hst := DC7 (V9 T8 (l.take i)) r;refine R5 ?_;refine A1 rfl (D3 rfl AG7 AD7 (A0 rfl) (A0 rfl) hx qz2) ?_;refine R2 ?_;intro b7;refine R6 ?_;refine A1 rfl (A5 rfl Tryz.call161 rfl (CZ6 (V9 T8 (l.take i)) r hgi hgr hsi) F0) ?_;refine R4 ?_;intro b8;refine R8 ?_;refine A3 ?_ ?_
  ·intro h24;have hstep : (AI9 (V9 T8 (l.take i)) r).1 = AD8 (V9 T8 (l.take i)) r := by (rw [← hst, D0 h24])
   refine R8 ?_;refine H4 (by' := 1) 3 rfl rfl rfl rfl s0 Tryz.type4 rfl rfl rfl rfl rfl rfl (A0 rfl) (A0 rfl) rfl qz2 ?_;intro v29_1;refine R6 ?_;refine S7 i v bs (i + 1) (v29_1) (bs ++ [(AI9 (V9 T8 (l.take i)) r).2]) ?_ ?_ (Le.trans (B8 [0, 0, 0, 0] rfl) (E5 2 CS3 A8))
   ·exact ⟨by omega, by rw [An4 hx, hinv.2.1, (Cp1 _ _).1], by rw [H3]; simp; omega⟩
   omega
  intro h24;have hstep : V9 T8 (l.take i) = AD8 (V9 T8 (l.take i)) r := by (conv => rhs; rw [← hst, C6 (by rw [h24]; decide)])
  refine R5 ?_;refine H4 (by' := 1) 3 rfl rfl rfl rfl s0 Tryz.type4 rfl rfl rfl rfl rfl rfl (A0 rfl) (A0 rfl) rfl qz2 ?_;intro v29_2;refine R6 ?_;refine S7 i v bs (i + 1) (v29_2) (bs ++ [(AI9 (V9 T8 (l.take i)) r).2]) ?_ ?_ (Le.trans (B8 [0, 0, 0, 0] rfl) (E5 2 CS3 A8))
  ·exact ⟨by omega, by rw [An4 hx, hinv.2.1, (Cp1 _ _).1], by rw [H3]; simp; omega⟩
  omega
 intro h15;have k15 := B9 h15;have hge : i = l.length := by omega
 have hbs := hinv.2.1;rw [hge, AJ5] at hbs;rw [hge, AJ5, ← hbs];refine R9 ?_;exact I4 [1] v (trivial) rfl C1 (g9 rfl F1 (I3 (F3 (ys := _) 2 rfl rfl P2 L0 rfl) X8))
end Go.PQ