/- Texts of the claim, part 4. -/
import Derived.Test.YtmggojkfhodjbaaGreatDoorProg
import GoSem.ClaimJoined
import GoSem.ClaimMapViews
import Derived.JoinedTies
import Derived.KernelRfl
import Derived.RowKit
import Derived.Sort.OwnSortedInts
import Derived.Sort.EncStr
import Derived.Shelf.GgSortFunc.RowK
import Derived.Shelf.Sort.Plain
import Derived.Shelf.Slices.In.SortNone
import Derived.Test.YtmggojkfhodjbaaGreatDoorZHistories3
set_option linter.defProp false
set_option linter.unusedVariables false
set_option linter.unusedSimpArgs false
set_option maxRecDepth 100000
set_option maxHeartbeats 4000000
namespace Go.PQ
open Go.Proofs
open Go Go.AV Go.M
attribute [local irreducible] OpW OpA OpS AWP K6 L8 K7 L1 Le Ev G4
theorem AX7 {p : Prop} (h : p := by
 refine B2 As3 rfl As4 rfl ?_;refine m2 (t := 0) rfl fun hl => ?_;try simp only [A7] at hl
 refine R12 ?_;refine F8 [(0, _), (1, _), (7, _)] _ (fun (i : Nat) => i ≤ l.length ∧ idxFrom f l 0 = idxFrom f (l.drop i) i) (fun i => []) (fun i => [(8, AV.int i)]) (fun i => l.length - i) (0) ?_ (H0 A4) ?_
 ·exact zq8
 intro i hinv;refine zK ?_ ?_
 ·intro h9 k9;have hlt : i < l.length := by omega
  obtain ⟨x, hx⟩ := B3 hlt;refine R13 ?_;refine A1 rfl (C8 rfl As5 As6 zA zA hx qz3) ?_;refine R1 ?_;refine A1 rfl (w_callv1 rfl zA x (hp x (C2 hx)) zA) ?_;refine zC ?_ ?_
  ·intro h16;refine R6 ?_;exact D5 rfl (A8 rfl qz78)
  intro h16;refine R5 ?_;refine G5 i (i + 1) ?_ ?_ (H0 A4)
  ·exact ⟨by omega, by rw [hinv.2, J7 hx, idxFrom, h16]; simp⟩
  omega
 intro h9 k9;have hge : l.length ≤ i := by omega
 refine R6 ?_;exact D5 rfl (A8 rfl qz78)) : p := h
namespace tw1n0
def As3 := @Tryz.func97
def As4 := @Tryz.ntmps97
def As5 := @Tryz.underlying24
def As6 := @Tryz.sizeOf101
end tw1n0
open tw1n0 in
theorem Bj6 (l : List U4) (pre : U4 → Prop) (f : U4 → Bool) (hp : ∀ x ∈ l, pre x) : E1 97 [AV.list 1 (l.map U4.cs), AV.fun1 Tryz.prog pre (fun a => AV.agg a.cs) (fun a => AV.bool (f a))] (AV.int (idxFrom f l 0)) := AX7
theorem AX8 {p : Prop} (h : p := by
  refine B2 As7 rfl As8 rfl ?_;refine R8 ?_;refine zF rfl As9 (At0 l pre f Aw1) F4 ?_;refine R4 ?_;exact D5 rfl (A8 rfl (by exact E5 AV.bool (BU9 f l 0 (Int.le_refl 0))))) : p := h
namespace tw2n0
def As7 := @Tryz.func46
def As8 := @Tryz.ntmps46
def As9 := @Tryz.call97
def At0 := @Bj6
end tw2n0
open tw2n0 in
theorem BV6 (l : List U4) (pre : U4 → Prop) (f : U4 → Bool) (hp : ∀ x ∈ l, pre x) : E1 46 [AV.list 1 (l.map U4.cs), AV.fun1 Tryz.prog pre (fun a => AV.agg a.cs) (fun a => AV.bool (f a))] (AV.bool (l.any f)) := AX8
namespace tw1n1
def As3 := @Tryz.func177
def As4 := @Tryz.ntmps177
def As5 := @Tryz.underlying43
def As6 := @Tryz.sizeOf82
end tw1n1
open tw1n1 in
theorem Bj7 (l : List A5) (pre : A5 → Prop) (f : A5 → Bool) (hp : ∀ x ∈ l, pre x) : E1 177 [AV.list 3 (l.map A5.cs), AV.fun1 Tryz.prog pre (fun a => AV.agg a.cs) (fun a => AV.bool (f a))] (AV.int (idxFrom f l 0)) := AX7
namespace tw2n1
def As7 := @Tryz.func134
def As8 := @Tryz.ntmps134
def As9 := @Tryz.call177
def At0 := @Bj7
end tw2n1
open tw2n1 in
theorem Aq3 (l : List A5) (pre : A5 → Prop) (f : A5 → Bool) (hp : ∀ x ∈ l, pre x) : E1 134 [AV.list 3 (l.map A5.cs), AV.fun1 Tryz.prog pre (fun a => AV.agg a.cs) (fun a => AV.bool (f a))] (AV.bool (l.any f)) := AX8
namespace tw1n2
def As3 := @Tryz.func147
def As4 := @Tryz.ntmps147
def As5 := @Tryz.underlying91
def As6 := @Tryz.sizeOf141
end tw1n2
open tw1n2 in
theorem BY2 (l : List F7) (pre : F7 → Prop) (f : F7 → Bool) (hp : ∀ x ∈ l, pre x) : E1 147 [AV.list 3 (l.map F7.cs), AV.fun1 Tryz.prog pre (fun a => AV.agg a.cs) (fun a => AV.bool (f a))] (AV.int (idxFrom f l 0)) := AX7
namespace tw2n2
def As7 := @Tryz.func90
def As8 := @Tryz.ntmps90
def As9 := @Tryz.call147
def At0 := @BY2
end tw2n2
open tw2n2 in
theorem BN9 (l : List F7) (pre : F7 → Prop) (f : F7 → Bool) (hp : ∀ x ∈ l, pre x) : E1 90 [AV.list 3 (l.map F7.cs), AV.fun1 Tryz.prog pre (fun a => AV.agg a.cs) (fun a => AV.bool (f a))] (AV.bool (l.any f)) := AX8
namespace tw1n3
def As3 := @Tryz.func149
def As4 := @Tryz.ntmps149
def As5 := @Tryz.underlying96
def As6 := @Tryz.sizeOf146
end tw1n3
open tw1n3 in
theorem Bn9 (l : List H3) (pre : H3 → Prop) (f : H3 → Bool) (hp : ∀ x ∈ l, pre x) : E1 149 [AV.list 3 (l.map H3.cs), AV.fun1 Tryz.prog pre (fun a => AV.agg a.cs) (fun a => AV.bool (f a))] (AV.int (idxFrom f l 0)) := AX7
namespace tw2n3
def As7 := @Tryz.func94
def As8 := @Tryz.ntmps94
def As9 := @Tryz.call149
def At0 := @Bn9
end tw2n3
open tw2n3 in
theorem BY3 (l : List H3) (pre : H3 → Prop) (f : H3 → Bool) (hp : ∀ x ∈ l, pre x) : E1 94 [AV.list 3 (l.map H3.cs), AV.fun1 Tryz.prog pre (fun a => AV.agg a.cs) (fun a => AV.bool (f a))] (AV.bool (l.any f)) := AX8
namespace tw1n4
def As3 := @Tryz.func301
def As4 := @Tryz.ntmps301
def As5 := @Tryz.underlying58
def As6 := @Tryz.sizeOf256
end tw1n4
open tw1n4 in
theorem Bo0 (l : List D2) (pre : D2 → Prop) (f : D2 → Bool) (hp : ∀ x ∈ l, pre x) : E1 301 [AV.list 5 (l.map D2.cs), AV.fun1 Tryz.prog pre (fun a => AV.agg a.cs) (fun a => AV.bool (f a))] (AV.int (idxFrom f l 0)) := AX7
namespace tw2n4
def As7 := @Tryz.func254
def As8 := @Tryz.ntmps254
def As9 := @Tryz.call301
def At0 := @Bo0
end tw2n4
open tw2n4 in
theorem BY4 (l : List D2) (pre : D2 → Prop) (f : D2 → Bool) (hp : ∀ x ∈ l, pre x) : E1 254 [AV.list 5 (l.map D2.cs), AV.fun1 Tryz.prog pre (fun a => AV.agg a.cs) (fun a => AV.bool (f a))] (AV.bool (l.any f)) := AX8
namespace tw1n5
def As3 := @Tryz.func57
def As4 := @Tryz.ntmps57
def As5 := @Tryz.underlying56
def As6 := @Tryz.sizeOf62
end tw1n5
open tw1n5 in
theorem Bo1 (l : List G7) (pre : G7 → Prop) (f : G7 → Bool) (hp : ∀ x ∈ l, pre x) : E1 57 [AV.list 3 (l.map G7.cs), AV.fun1 Tryz.prog pre (fun a => AV.agg a.cs) (fun a => AV.bool (f a))] (AV.int (idxFrom f l 0)) := AX7
namespace tw2n5
def As7 := @Tryz.func21
def As8 := @Tryz.ntmps21
def As9 := @Tryz.call57
def At0 := @Bo1
end tw2n5
open tw2n5 in
theorem BY5 (l : List G7) (pre : G7 → Prop) (f : G7 → Bool) (hp : ∀ x ∈ l, pre x) : E1 21 [AV.list 3 (l.map G7.cs), AV.fun1 Tryz.prog pre (fun a => AV.agg a.cs) (fun a => AV.bool (f a))] (AV.bool (l.any f)) := AX8
namespace tw1n6
def As3 := @Tryz.func212
def As4 := @Tryz.ntmps212
def As5 := @Tryz.underlying53
def As6 := @Tryz.sizeOf112
end tw1n6
open tw1n6 in
theorem CC1 (l : List TOp) (pre : TOp → Prop) (f : TOp → Bool) (hp : ∀ x ∈ l, pre x) : E1 212 [AV.list 4 (l.map TOp.cs), AV.fun1 Tryz.prog pre (fun a => AV.agg a.cs) (fun a => AV.bool (f a))] (AV.int (idxFrom f l 0)) := AX7
namespace tw2n6
def As7 := @Tryz.func188
def As8 := @Tryz.ntmps188
def As9 := @Tryz.call212
def At0 := @CC1
end tw2n6
open tw2n6 in
theorem Bj8 (l : List TOp) (pre : TOp → Prop) (f : TOp → Bool) (hp : ∀ x ∈ l, pre x) : E1 188 [AV.list 4 (l.map TOp.cs), AV.fun1 Tryz.prog pre (fun a => AV.agg a.cs) (fun a => AV.bool (f a))] (AV.bool (l.any f)) := AX8
namespace tw1n7
def As3 := @Tryz.func176
def As4 := @Tryz.ntmps176
def As5 := @Tryz.underlying42
def As6 := @Tryz.sizeOf71
end tw1n7
open tw1n7 in
theorem Bu8 (l : List F9) (pre : F9 → Prop) (f : F9 → Bool) (hp : ∀ x ∈ l, pre x) : E1 176 [AV.list 3 (l.map F9.cs), AV.fun1 Tryz.prog pre (fun a => AV.agg a.cs) (fun a => AV.bool (f a))] (AV.int (idxFrom f l 0)) := AX7
namespace tw2n7
def As7 := @Tryz.func131
def As8 := @Tryz.ntmps131
def As9 := @Tryz.call176
def At0 := @Bu8
end tw2n7
open tw2n7 in
theorem Bf6 (l : List F9) (pre : F9 → Prop) (f : F9 → Bool) (hp : ∀ x ∈ l, pre x) : E1 131 [AV.list 3 (l.map F9.cs), AV.fun1 Tryz.prog pre (fun a => AV.agg a.cs) (fun a => AV.bool (f a))] (AV.bool (l.any f)) := AX8
namespace tw1n8
def As3 := @Tryz.func98
def As4 := @Tryz.ntmps98
def As5 := @Tryz.underlying29
def As6 := @Tryz.sizeOf55
end tw1n8
open tw1n8 in
theorem BV7 (l : List B5) (pre : B5 → Prop) (f : B5 → Bool) (hp : ∀ x ∈ l, pre x) : E1 98 [AV.list 10 (l.map B5.cs), AV.fun1 Tryz.prog pre (fun a => AV.agg a.cs) (fun a => AV.bool (f a))] (AV.int (idxFrom f l 0)) := AX7
namespace tw2n8
def As7 := @Tryz.func49
def As8 := @Tryz.ntmps49
def As9 := @Tryz.call98
def At0 := @BV7
end tw2n8
open tw2n8 in
theorem BJ4 (l : List B5) (pre : B5 → Prop) (f : B5 → Bool) (hp : ∀ x ∈ l, pre x) : E1 49 [AV.list 10 (l.map B5.cs), AV.fun1 Tryz.prog pre (fun a => AV.agg a.cs) (fun a => AV.bool (f a))] (AV.bool (l.any f)) := AX8
namespace tw1n9
def As3 := @Tryz.func103
def As4 := @Tryz.ntmps103
def As5 := @Tryz.underlying30
def As6 := @Tryz.sizeOf73
end tw1n9
open tw1n9 in
theorem BQ1 (l : List B9) (pre : B9 → Prop) (f : B9 → Bool) (hp : ∀ x ∈ l, pre x) : E1 103 [AV.list 6 (l.map B9.cs), AV.fun1 Tryz.prog pre (fun a => AV.agg a.cs) (fun a => AV.bool (f a))] (AV.int (idxFrom f l 0)) := AX7
namespace tw2n9
def As7 := @Tryz.func52
def As8 := @Tryz.ntmps52
def As9 := @Tryz.call103
def At0 := @BQ1
end tw2n9
open tw2n9 in
theorem BG9 (l : List B9) (pre : B9 → Prop) (f : B9 → Bool) (hp : ∀ x ∈ l, pre x) : E1 52 [AV.list 6 (l.map B9.cs), AV.fun1 Tryz.prog pre (fun a => AV.agg a.cs) (fun a => AV.bool (f a))] (AV.bool (l.any f)) := AX8
namespace tw1n10
def As3 := @Tryz.func77
def As4 := @Tryz.ntmps77
def As5 := @Tryz.underlying34
def As6 := @Tryz.sizeOf45
end tw1n10
open tw1n10 in
theorem Bo2 (l : List E0) (pre : E0 → Prop) (f : E0 → Bool) (hp : ∀ x ∈ l, pre x) : E1 77 [AV.list 8 (l.map E0.cs), AV.fun1 Tryz.prog pre (fun a => AV.agg a.cs) (fun a => AV.bool (f a))] (AV.int (idxFrom f l 0)) := AX7
namespace tw2n10
def As7 := @Tryz.func31
def As8 := @Tryz.ntmps31
def As9 := @Tryz.call77
def At0 := @Bo2
end tw2n10
open tw2n10 in
theorem BY6 (l : List E0) (pre : E0 → Prop) (f : E0 → Bool) (hp : ∀ x ∈ l, pre x) : E1 31 [AV.list 8 (l.map E0.cs), AV.fun1 Tryz.prog pre (fun a => AV.agg a.cs) (fun a => AV.bool (f a))] (AV.bool (l.any f)) := AX8
namespace tw1n11
def As3 := @Tryz.func151
def As4 := @Tryz.ntmps151
def As5 := @Tryz.underlying28
def As6 := @Tryz.sizeOf3
end tw1n11
open tw1n11 in
theorem Bu9 (l : List Int) (pre : Int → Prop) (f : Int → Bool) (hp : ∀ x ∈ l, pre x) : E1 151 [ints l, AV.fun1 Tryz.prog pre (fun a => AV.int a) (fun a => AV.bool (f a))] (AV.int (idxFrom f l 0)) := AX7
namespace tw2n11
def As7 := @Tryz.func100
def As8 := @Tryz.ntmps100
def As9 := @Tryz.call151
def At0 := @Bu9
end tw2n11
open tw2n11 in
theorem Bf7 (l : List Int) (pre : Int → Prop) (f : Int → Bool) (hp : ∀ x ∈ l, pre x) : E1 100 [ints l, AV.fun1 Tryz.prog pre (fun a => AV.int a) (fun a => AV.bool (f a))] (AV.bool (l.any f)) := AX8
theorem Bt9 {p : Prop} (h : p := by
 refine B2 Ck2 rfl Ck3 rfl ?_;refine m2 (t := 0) rfl fun hl => ?_;try simp only [A7] at hl
 refine R19 ?_;refine J5 [(0, _), (1, _), (2, _), (6, _), (7, _), (8, _)] _ (fun (i : Nat) (j : Nat) => i ≤ j ∧ j ≤ l.length ∧ bs (fun x => f x v) l 0 l.length = bs (fun x => f x v) l i j) (fun i j => []) (fun i j => [(9, AV.int i), (10, AV.int j)]) (fun i j => j - i) (0) ((l.map Ck4).length) ?_ (H0 A4) ?_
 ·exact ⟨E2 _, by simp, by simp⟩
 intro i j hinv;refine zK ?_ ?_
 ·intro h17 k17;have hlt : i < j := by omega
  obtain ⟨x, hx⟩ := B3 (show (i + j) / 2 < l.length by omega);refine R6 ?_;refine A1 rfl (BX2 rfl zA zA qz8) ?_;refine A1 rfl (Ap9 rfl E6 Tryz.underlying199 zA) ?_;refine A1 rfl (w_shr rfl zA J4 D4 D4) ?_;refine A1 rfl (Ap9 rfl E6 m7 zA) ?_;refine R4 ?_;rw [half_eq qz8];refine R3 ?_;refine A1 rfl (C8 rfl CO4 CO5 zA zA hx qz3) ?_;refine R2 ?_;refine A1 rfl (Cl3 rfl zA x v (hp x (C2 hx)) zA zA) ?_;refine zK ?_ ?_
  ·intro h31 k31;refine R5 ?_;refine Ap7 ?_;refine G0 i j ((i + j) / 2 + 1) (j) ?_ ?_ (H0 A4)
   ·exact ⟨by omega, by omega, by rw [hinv.2.2, bs_lo hlt hx k31]⟩
   omega
  intro h31 k31;refine R4 ?_;refine Ap7 ?_;refine G0 i j (i) ((i + j) / 2) ?_ ?_ (H0 A4)
  ·exact ⟨by omega, by omega, by rw [hinv.2.2, bs_hi hlt hx k31]⟩
  omega
 intro h17 k17;have hge : bs (fun x => f x v) l 0 l.length = i := by rw [hinv.2.2, Cm8 qz8]
 obtain ⟨y, hy⟩ := Ai2 l i;refine R11 ?_;refine J6 rfl (fun hc => C8 rfl CO4 CO5 (A9 rfl hc) (A9 rfl hc) (hy qz6) rfl) ?_;refine R2 ?_;refine J6 rfl (fun hc => Cl3 rfl (A9 rfl hc) y v (hp y (C2 (hy qz6))) (A9 rfl hc) (A9 rfl hc)) ?_;refine R6 ?_;exact Y9 rfl D4 (I1 (A8 rfl qz96) (I1 (A8 rfl qz96) z8))) : p := h
namespace tw3n0
def Ck2 := @Tryz.func154
def Ck3 := @Tryz.ntmps154
@[reducible] def Ck4 := @A5.cs
def CO4 := @Tryz.underlying43
def CO5 := @Tryz.sizeOf82
end tw3n0
open tw3n0 in
theorem BV8 (l : List A5) (v : Str) (pre : A5 → Str → Prop) (hp : ∀ x ∈ l, pre x v) (f : A5 → Str → Int) (hl2 : l.length ≤ 4611686018427387903) : E1 154 [AV.list 3 (l.map A5.cs), AV.str v, AV.fun2 Tryz.prog pre (fun a => AV.agg a.cs) (fun b => AV.str b) (fun a b => AV.int (f a b))] (AV.tup [AV.int (bs (fun x => f x v) l 0 l.length), AV.bool (Am9 (fun x => f x v) l (bs (fun x => f x v) l 0 l.length))]) := Bt9
namespace tw3n1
def Ck2 := @Tryz.func326
def Ck3 := @Tryz.ntmps326
@[reducible] def Ck4 := @B6.cs
def CO4 := @Tryz.underlying57
def CO5 := @Tryz.sizeOf322
end tw3n1
open tw3n1 in
theorem BY7 (l : List B6) (v : Str) (pre : B6 → Str → Prop) (hp : ∀ x ∈ l, pre x v) (f : B6 → Str → Int) (hl2 : l.length ≤ 4611686018427387903) : E1 326 [AV.list 2 (l.map B6.cs), AV.str v, AV.fun2 Tryz.prog pre (fun a => AV.agg a.cs) (fun b => AV.str b) (fun a b => AV.int (f a b))] (AV.tup [AV.int (bs (fun x => f x v) l 0 l.length), AV.bool (Am9 (fun x => f x v) l (bs (fun x => f x v) l 0 l.length))]) := Bt9
namespace tw3n2
def Ck2 := @Tryz.func252
def Ck3 := @Tryz.ntmps252
@[reducible] def Ck4 := @D2.cs
def CO4 := @Tryz.underlying58
def CO5 := @Tryz.sizeOf256
end tw3n2
open tw3n2 in
theorem BY8 (l : List D2) (v : Int) (pre : D2 → Int → Prop) (hp : ∀ x ∈ l, pre x v) (f : D2 → Int → Int) (hl2 : l.length ≤ 4611686018427387903) : E1 252 [AV.list 5 (l.map D2.cs), AV.int v, AV.fun2 Tryz.prog pre (fun a => AV.agg a.cs) (fun b => AV.int b) (fun a b => AV.int (f a b))] (AV.tup [AV.int (bs (fun x => f x v) l 0 l.length), AV.bool (Am9 (fun x => f x v) l (bs (fun x => f x v) l 0 l.length))]) := Bt9
namespace tw3n3
def Ck2 := @Tryz.func109
def Ck3 := @Tryz.ntmps109
@[reducible] def Ck4 := @G7.cs
def CO4 := @Tryz.underlying56
def CO5 := @Tryz.sizeOf62
end tw3n3
open tw3n3 in
theorem BY9 (l : List G7) (v : Int) (pre : G7 → Int → Prop) (hp : ∀ x ∈ l, pre x v) (f : G7 → Int → Int) (hl2 : l.length ≤ 4611686018427387903) : E1 109 [AV.list 3 (l.map G7.cs), AV.int v, AV.fun2 Tryz.prog pre (fun a => AV.agg a.cs) (fun b => AV.int b) (fun a b => AV.int (f a b))] (AV.tup [AV.int (bs (fun x => f x v) l 0 l.length), AV.bool (Am9 (fun x => f x v) l (bs (fun x => f x v) l 0 l.length))]) := Bt9
theorem CC2 (l : List Str) (v : Str) : E1 347 [strs l, AV.str v] (AV.int (idxFrom (fun x => v == x) l 0)) := by
 refine B2 Tryz.func347 rfl Tryz.ntmps347 rfl ?_;refine m2 (t := 0) rfl fun hl => ?_;try simp only [A7] at hl
 refine R12 ?_;refine F8 [(0, _), (1, _), (7, _)] _ (fun (i : Nat) => i ≤ l.length ∧ idxFrom (fun x => v == x) l 0 = idxFrom (fun x => v == x) (l.drop i) i) (fun i => []) (fun i => [(8, AV.int i)]) (fun i => l.length - i) (0) ?_ (H0 A4) ?_
 ·exact zq8
 intro i hinv;refine zK ?_ ?_
 ·intro h9 k9;have hlt : i < l.length := by omega
  obtain ⟨x, hx⟩ := B3 hlt;refine R13 ?_;refine A1 rfl (zX hx) ?_;refine zC ?_ ?_
  ·intro h16;refine R6 ?_;exact D5 rfl (A8 rfl qz78)
  intro h16;refine R5 ?_;refine G5 i (i + 1) ?_ ?_ (H0 A4)
  ·exact ⟨by omega, by rw [hinv.2, J7 hx, idxFrom, h16]; simp⟩
  omega
 intro h9 k9;have hge : l.length ≤ i := by omega
 refine R6 ?_;exact D5 rfl (A8 rfl qz78)
theorem Bj9 (l : List Str) (v : Str) : E1 333 [strs l, AV.str v] (AV.bool (l.any fun x => v == x)) := by
  refine B2 Tryz.func333 rfl Tryz.ntmps333 rfl ?_;refine R8 ?_;refine zF rfl Tryz.call347 (CC2 _ _) F4 ?_;refine R4 ?_;exact D5 rfl (A8 rfl (by exact E5 AV.bool (BU9 (fun x => v == x) l 0 (Int.le_refl 0))))
theorem BB4 {p : Prop} (h : p := by
 refine C6 Bh7 rfl Bh8 rfl ?_;refine Cx1 0 rfl ?_ ?_
 ·intro hnil;have hn : l = [] := by cases l with | nil => rfl | cons x l => simp at hnil
  subst hn;refine R2 ?_;refine V0 BL0 BL1 rfl rfl rfl rfl I2 ?_;intro v2;refine R5 ?_;refine A1 rfl (w_eqnil rfl BF0 zA) ?_;refine zC ?_ ?_
  ·intro h4;refine R2 ?_;refine V0 BL0 BL1 rfl rfl rfl rfl I2 ?_;intro v2;refine R2 ?_;exact I5 [0] v2 (trivial) rfl B8 (N4 rfl (A8 rfl V5))
  intro h4
  cases h4
 skip
 refine R2 ?_;refine V0 BL0 BL1 rfl rfl rfl rfl I2 ?_;intro v2;refine R5 ?_;refine A1 rfl (w_eqnnl rfl BF0 zA) ?_;refine zC ?_ ?_
 ·intro h4
  cases h4
 intro h4;refine R3 ?_;refine P4 rfl rfl rfl rfl BF0 Bh9 ?_;intro v5;refine R1 ?_;refine G1 (by' := BL2) 0 rfl rfl rfl rfl BF0 Bi0 rfl rfl rfl rfl rfl rfl zA (AY5 zA nnl_list) rfl (by first | ((try unfold BL2); omega) | (simp only [Cj6, W7, szR] at *; ((try unfold BL2); omega))) ?_;intro v7_1;refine R3 ?_;exact I5 [0] v7_1 (trivial) rfl B8 (N4 rfl (A8 rfl V5))) : p := h
namespace tw4n0
def Bh7 := @Tryz.func262
def Bh8 := @Tryz.ntmps262
@[reducible] def BL0 : Nat := 82
@[reducible] def BL1 : Nat := 3
def BF0 := @Tryz.underlying43
def Bh9 := @Tryz.sizeOf82
@[reducible] def BL2 : Nat := 40
def Bi0 := @Tryz.type82
end tw4n0
open tw4n0 in
theorem CI5 (l : List A5) (hl : l.length ≤ 4194304) : L7 262 [AV.list 3 (l.map A5.cs)] [] (fun _ : Value => True) (fun v => [.arr v 82 3 (l.map A5.cs)]) (fun v => AV.is v) := BB4
namespace tw4n1
def Bh7 := @Tryz.func293
def Bh8 := @Tryz.ntmps293
@[reducible] def BL0 : Nat := 325
@[reducible] def BL1 : Nat := 3
def BF0 := @Tryz.underlying320
def Bh9 := @Tryz.sizeOf325
@[reducible] def BL2 : Nat := 32
def Bi0 := @Tryz.type325
end tw4n1
open tw4n1 in
theorem Ce6 (l : List Y8) (hl : l.length ≤ 4194304) : L7 293 [AV.list 3 (l.map Y8.cs)] [] (fun _ : Value => True) (fun v => [.arr v 325 3 (l.map Y8.cs)]) (fun v => AV.is v) := BB4
namespace tw4n2
def Bh7 := @Tryz.func292
def Bh8 := @Tryz.ntmps292
@[reducible] def BL0 : Nat := 322
@[reducible] def BL1 : Nat := 2
def BF0 := @Tryz.underlying57
def Bh9 := @Tryz.sizeOf322
@[reducible] def BL2 : Nat := 40
def Bi0 := @Tryz.type322
end tw4n2
open tw4n2 in
theorem CS5 (l : List B6) (hl : l.length ≤ 4194304) : L7 292 [AV.list 2 (l.map B6.cs)] [] (fun _ : Value => True) (fun v => [.arr v 322 2 (l.map B6.cs)]) (fun v => AV.is v) := BB4
namespace tw4n3
def Bh7 := @Tryz.func258
def Bh8 := @Tryz.ntmps258
@[reducible] def BL0 : Nat := 256
@[reducible] def BL1 : Nat := 5
def BF0 := @Tryz.underlying58
def Bh9 := @Tryz.sizeOf256
@[reducible] def BL2 : Nat := 72
def Bi0 := @Tryz.type256
end tw4n3
open tw4n3 in
theorem CS6 (l : List D2) (hl : l.length ≤ 4194304) : L7 258 [AV.list 5 (l.map D2.cs)] [] (fun _ : Value => True) (fun v => [.arr v 256 5 (l.map D2.cs)]) (fun v => AV.is v) := BB4
namespace tw4n4
def Bh7 := @Tryz.func247
def Bh8 := @Tryz.ntmps247
@[reducible] def BL0 : Nat := 62
@[reducible] def BL1 : Nat := 3
def BF0 := @Tryz.underlying56
def Bh9 := @Tryz.sizeOf62
@[reducible] def BL2 : Nat := 24
def Bi0 := @Tryz.type62
end tw4n4
open tw4n4 in
theorem BZ0 (l : List G7) (hl : l.length ≤ 4194304) : L7 247 [AV.list 3 (l.map G7.cs)] [] (fun _ : Value => True) (fun v => [.arr v 62 3 (l.map G7.cs)]) (fun v => AV.is v) := BB4
namespace tw4n5
def Bh7 := @Tryz.func24
def Bh8 := @Tryz.ntmps24
@[reducible] def BL0 : Nat := 71
@[reducible] def BL1 : Nat := 3
def BF0 := @Tryz.underlying42
def Bh9 := @Tryz.sizeOf71
@[reducible] def BL2 : Nat := 40
def Bi0 := @Tryz.type71
end tw4n5
open tw4n5 in
theorem Ce7 (l : List F9) (hl : l.length ≤ 4194304) : L7 24 [AV.list 3 (l.map F9.cs)] [] (fun _ : Value => True) (fun v => [.arr v 71 3 (l.map F9.cs)]) (fun v => AV.is v) := BB4
namespace tw4n6
def Bh7 := @Tryz.func261
def Bh8 := @Tryz.ntmps261
@[reducible] def BL0 : Nat := 9
@[reducible] def BL1 : Nat := 1
def BF0 := @Tryz.underlying25
def Bh9 := @Tryz.sizeOf9
@[reducible] def BL2 : Nat := 16
def Bi0 := @Tryz.type9
end tw4n6
open tw4n6 in
theorem CC3 (l : List Str) (hl : l.length ≤ 4194304) : L7 261 [strs l] [] (fun _ : Value => True) (fun v => [.arr v 9 1 (l.map (fun x => [AV.str x]))]) (fun v => AV.is v) := BB4
theorem CS7 {p : Prop} (h : p := by
 have hn : (l.map BL3).length = l.length := A7 _;have h1 : ([BL3 x] : List (List AV)).length = 1 := rfl;have e28 : ((l.map BL3).length : Int) + (([BL3 x] : List (List AV)).length : Int) = ((l.length + 1 : Nat) : Int) := by rw [hn, h1]; rfl
 have e49 : (i : Int) + (([BL3 x] : List (List AV)).length : Int) = ((i + 1 : Nat) : Int) := by rw [h1]; rfl
 have e39 : ((l.length + 1 : Nat) : Int) - (i : Int) = ((l.length + 1 - i : Nat) : Int) := by omega
 refine C6 tw5x1 rfl tw5x2 rfl ?_;refine At5 0 rfl ?_ ?_
 ·intro hv hes; subst hv;have hl0 : l = [] := by cases l with | nil => rfl | cons y l => (simp at hes)
  subst hl0;have hi0 : i = 0 := by simpa using hi
  subst hi0;refine At5 1 rfl (fun _ h => by cases h) ?_;intro gv cv hvv _ _;subst hvv;refine zq48 ?_;refine R5 ?_;refine A1 rfl (CF9 0 rfl AK1 Ak3 zA rfl zA qz3 qz3) ?_;refine R4 ?_;refine A1 rfl (Aw8 rfl AK1 zA) ?_;refine zC ?_ ?_
  ·intro h16;have k16 := J3 h16;(try simp only [A7] at k16);rw [h1] at k16; omega
  intro h16;have k16 := J0 h16;(try simp only [A7] at k16);refine zC ?_ ?_
  ·intro h22;have k22 := J3 h22;(try simp only [A7] at k22);refine R4 ?_;refine BI9 (by' := BT4) 0 rfl rfl rfl rfl AK1 BL4 rfl rfl rfl rfl rfl rfl zA (Af9 1 rfl zA) Y1 rfl (by simp only [A7, I9, Q8]; ((try unfold BT4); omega)) ?_;intro v25;refine R3 ?_;exact I5 [0] v25 (trivial) rfl Cj1 (N4 rfl (A8 rfl BQ3))
  intro h22;have k22 := J0 h22;(try simp only [A7] at k22);exact absurd rfl k22
 intro g cap hv hlc hcm; subst hv;refine At5 1 rfl (fun _ h => by cases h) ?_;intro gv cv hvv _ _;subst hvv;refine zq48 ?_;refine R5 ?_;refine A1 rfl (AY8 rfl AK1 Ak3 zA zA qz3 qz3) ?_;refine R4 ?_;refine A1 rfl (Aw8 rfl AK1 zA) ?_;refine zC ?_ ?_
 ·intro h16;have k16 := J3 h16;(try simp only [A7] at k16);rw [h1] at k16; omega
 intro h16;have k16 := J0 h16;(try simp only [A7] at k16);refine R4 ?_;refine A1 rfl (Aw8 rfl AK1 zA) ?_;refine zC ?_ ?_
 ·intro h22;have k22 := J3 h22;(try simp only [A7] at k22);refine R4 ?_;refine BI9 (by' := BT4) 0 rfl rfl rfl rfl AK1 BL4 rfl rfl rfl rfl rfl rfl zA (Af9 1 rfl zA) Y1 rfl (by simp only [A7, I9, Q8]; ((try unfold BT4); omega)) ?_;intro v25;refine R3 ?_;exact I5 [0] v25 (trivial) rfl Cj1 (N4 rfl (A8 rfl BQ3))
 intro h22;have k22 := J0 h22;(try simp only [A7] at k22);refine R7 ?_;rw [e28];refine R1 ?_;refine A1 rfl (w_vcap rfl AK1 zA) ?_;refine zK ?_ ?_
 ·intro h31 k31;refine R4 ?_;refine A1 rfl (CG1 rfl AK1 Ak3 zA zA qz8 (by rw [hn] at hlc; omega)) ?_;refine R3 ?_;rw [e28];refine R2 ?_;rw [e39, AA4];refine CG2 (by' := BT4) (j := i) (m := l.length + 1 - i) 0 rfl rfl rfl rfl AK1 m7 BL4 rfl rfl rfl rfl rfl rfl zA zA rfl (by rw [hn]; exact hi) Ci5 Ci5 Ci5 Ci5 ?_;intro g2 cap2 hcap2;refine R6 ?_;refine A1 rfl (AY8 rfl AK1 Ak3 zA zA qz3 qz3) ?_;refine R1 ?_;rw [AA4];refine BL8 (k := i) 0 rfl rfl rfl rfl AK1 BL4 rfl zA (Af9 2 rfl zA) rfl (by rw [h1]; omega) (by rw [h1]; omega) hcap2 Y1 ?_;refine R2 ?_;refine M6 8 E6 E6 rfl ?_;refine R4 ?_;rw [e49];refine zq191 ?_;simp only [AA4];refine BL8 (k := i + 1) 0 rfl rfl rfl rfl AK1 BL4 rfl zA (CR2 1 rfl zA) rfl (by rw [AD4, hn]; omega) (by rw [AD4, hn]; omega) hcap2 qz203 ?_;refine R7 ?_;exact I5 [0] (slv g2 (i + (l.length + 1 - i)) cap2) (trivial) rfl Cj1 (N4 rfl (A8 rfl BQ3))
 intro h31 k31;refine R7 ?_;rw [e28];refine A1 rfl (CG1 rfl AK1 Ak3 zA zA qz3 qz3) ?_;rw [AA4];refine R10 ?_;rw [e49];refine A1 rfl (AY8 rfl AK1 Ak3 zA zA qz3 qz3) ?_;rw [AA4];refine A1 rfl (Bw4 (tb := 4) 1 0 rfl tw5x9 E6 E6 E6 E6 AK1 Ak3 zA zA rfl rfl rfl qz8 rfl) ?_;refine zC ?_ ?_
 ·intro h68;refine R1 ?_;refine M6 8 E6 E6 rfl ?_;refine R4 ?_;rw [e49];refine zq191 ?_;simp only [AA4];refine Cm0 (k := i) (len := (l.map BL3).length) 0 rfl rfl rfl rfl AK1 BL4 rfl (by rw [hn]; exact A0 rfl) (by rw [hn]; exact A0 rfl) rfl qz8 qz8 ?_;intro j77;refine R5 ?_;refine A1 rfl (AY8 rfl AK1 Ak3 zA zA qz3 qz3) ?_;refine R1 ?_;rw [AA4];refine BL8 (k := i) 0 rfl rfl rfl rfl AK1 BL4 rfl zA (Af9 1 rfl zA) rfl (by rw [h1, hn]; omega) (by rw [h1]; omega) qz8 Y1 ?_;refine R7 ?_;exact I5 [0] (slv g ((l.map BL3).length + 1) cap) (trivial) rfl Cj1 (N4 rfl (A8 rfl BQ3))
 intro h68
 cases h68) : p := h
namespace tw5n0
@[reducible] def BL3 := @A5.cs
def tw5x1 := @Tryz.func113
def tw5x2 := @Tryz.ntmps113
def AK1 := @Tryz.underlying43
def Ak3 := @Tryz.sizeOf82
@[reducible] def BT4 : Nat := 40
def BL4 := @Tryz.type82
@[reducible] def tw5x7 : Nat := 82
@[reducible] def tw5x8 : Nat := 3
def tw5x9 := @Tryz.func157
end tw5n0
open tw5n0 in
theorem CI6 (v vv : Value) (l : List A5) (x : A5) (i : Nat) (hi : i ≤ l.length) (hl : l.length ≤ 4194304) : L7 113 [AV.is v, AV.int i, AV.is vv] [.arr v 82 3 (l.map A5.cs), .arr vv 82 3 [A5.cs x]] (fun _ : Value => True) (fun v => [.arr v 82 3 ((l.take i ++ x :: l.drop i).map A5.cs)]) (fun v => AV.is v) := CS7
namespace tw5n1
@[reducible] def BL3 := @D2.cs
def tw5x1 := @Tryz.func219
def tw5x2 := @Tryz.ntmps219
def AK1 := @Tryz.underlying58
def Ak3 := @Tryz.sizeOf256
@[reducible] def BT4 : Nat := 72
def BL4 := @Tryz.type256
@[reducible] def tw5x7 : Nat := 256
@[reducible] def tw5x8 : Nat := 5
def tw5x9 := @Tryz.func259
end tw5n1
open tw5n1 in
theorem CS8 (v vv : Value) (l : List D2) (x : D2) (i : Nat) (hi : i ≤ l.length) (hl : l.length ≤ 4194304) : L7 219 [AV.is v, AV.int i, AV.is vv] [.arr v 256 5 (l.map D2.cs), .arr vv 256 5 [D2.cs x]] (fun _ : Value => True) (fun v => [.arr v 256 5 ((l.take i ++ x :: l.drop i).map D2.cs)]) (fun v => AV.is v) := CS7
namespace tw5n2
@[reducible] def BL3 := @G7.cs
def tw5x1 := @Tryz.func251
def tw5x2 := @Tryz.ntmps251
def AK1 := @Tryz.underlying56
def Ak3 := @Tryz.sizeOf62
@[reducible] def BT4 : Nat := 24
def BL4 := @Tryz.type62
@[reducible] def tw5x7 : Nat := 62
@[reducible] def tw5x8 : Nat := 3
def tw5x9 := @Tryz.func299
end tw5n2
open tw5n2 in
theorem Ao3 (v vv : Value) (l : List G7) (x : G7) (i : Nat) (hi : i ≤ l.length) (hl : l.length ≤ 4194304) : L7 251 [AV.is v, AV.int i, AV.is vv] [.arr v 62 3 (l.map G7.cs), .arr vv 62 3 [G7.cs x]] (fun _ : Value => True) (fun v => [.arr v 62 3 ((l.take i ++ x :: l.drop i).map G7.cs)]) (fun v => AV.is v) := CS7
theorem BZ1 (v : Value) (l : List D2) (i : Nat) (hi : i < l.length) (hl : l.length ≤ 4194304) : L7 250 [AV.is v, AV.int i, AV.int ((i : Int) + 1)] [.arr v 256 5 (l.map D2.cs)] (fun _ : Value => True) (fun v => [.arr v 256 5 ((l.eraseIdx i).map D2.cs)]) (fun v => AV.is v) := by
 have hn : (l.map D2.cs).length = l.length := A7 _;refine C6 Tryz.func250 rfl Tryz.ntmps250 rfl ?_;refine At5 0 rfl ?_ ?_
 ·intro hv hes; subst hv;have h0 : l.length = 0 := (by rw [← hn, hes]; rfl); omega
 intro g cap hv hlc hcm; subst hv;refine zq48 ?_;refine R7 ?_;refine A1 rfl (Aw8 rfl G9 zA) ?_;refine A1 rfl (w_v3 rfl G9 N8 zA zA zA zA qz8 qz8 qz8 qz8) ?_;refine zC ?_ ?_
 ·intro h16;have k16 := J3 h16;(try simp only [A7] at k16);omega
 intro h16;have k16 := J0 h16;(try simp only [A7] at k16);refine R4 ?_;refine A1 rfl (Aw8 rfl G9 zA) ?_;refine R3 ?_;refine M6 6 E6 E6 rfl ?_;refine R2 ?_;refine B7 rfl rfl (CG1 rfl G9 N8 zA zA qz8 qz8) ?_;refine R2 ?_;refine B7 rfl rfl (AY8 rfl G9 N8 zA zA qz8 qz8) ?_;refine R1 ?_;rw [show ((i : Int) + 1).toNat = i + 1 by omega, AA4];refine DR9 (k := i) (j := i + 1) 0 rfl rfl rfl rfl G9 Tryz.type256 rfl zA zA rfl qz8 qz8 ?_;refine R6 ?_;refine A1 rfl (Aw8 rfl G9 zA) ?_;refine R1 ?_;refine A1 rfl (w_vlohi rfl G9 N8 zA zA zA qz8 qz8 qz8) ?_;simp only [AA4];refine DS0 0 rfl rfl rfl G9 Tryz.zeroValue256 rfl rfl rfl zA rfl qz8 qz8 qz8 ?_;refine R7 ?_;exact I5 [0] (slv g (i + ((l.map D2.cs).length - (i + 1))) cap) (trivial) rfl (by exact E5 (fun z => [Own.arr _ 256 5 z]) (by simp [List.eraseIdx_eq_take_drop_succ, List.map_take, List.map_drop])) (N4 rfl (A8 rfl V5))
end Go.PQ
namespace Go.PQ
open Go.Proofs
open Go Go.AV Go.M
attribute [local irreducible] OpW OpA OpS AWP K6 L8 K7 L1 Le Ev G4
theorem BZ2 {p : Prop} (h : p := by
  refine B2 CO6 rfl CO7 rfl ?_;refine R7 ?_;refine zF rfl CO8 (CO9 _ _ _) AR2 ?_;refine R3 ?_;exact D5 rfl (A8 rfl V5)) : p := h
namespace tw6n0
def CO6 := @Tryz.func187
def CO7 := @Tryz.ntmps187
def CO8 := @Tryz.call45
def CO9 := @Z2
end tw6n0
open tw6n0 in
theorem Ai4 (t : Int) : E1 187 [AV.int t] (AV.bool (Aa0 t)) := BZ2
theorem BH0 (s : Str) (g : Bool) (hs : s.length ≤ 4611686018427387904) : E1 130 [AV.str s, AV.bool g] (AV.bool (AE2 s g)) := by
  refine B2 Tryz.func130 rfl Tryz.ntmps130 rfl ?_;refine R7 ?_;refine zF rfl Tryz.call175 (Bn8 _ qz8) (A2 (A0 rfl) B0) ?_;refine R4 ?_;refine AC2 rfl rfl (Z4 rfl rfl rfl) (fun hc => Cl2 rfl (A9 rfl hc) (J1 (l := []) rfl)) ?_;refine R6 ?_;exact zq10
theorem BJ5 (s : Str) (hs : s.length ≤ 4611686018427387904) : E1 142 [AV.str s] (AV.bool (AO3 s)) := by
  refine B2 Tryz.func142 rfl Tryz.ntmps142 rfl ?_;refine R11 ?_;refine J6 rfl (fun hc => zG rfl Tryz.call161 (Bn7 _ _ qz8 D4) (A2 (A9 rfl hc) (A2 (J1 (l := [46, 45, 44, 95]) rfl) B0))) ?_;exact zq109
theorem Bo3 (k s : Str) (g : Bool) (hk : k.length ≤ 4611686018427387904) (hs : s.length ≤ 4611686018427387904) : E1 143 [AV.str k, AV.str s, AV.bool g] (AV.bool (AY0 k s g)) := by
  refine B2 Tryz.func143 rfl Tryz.ntmps143 rfl ?_;refine R7 ?_;refine zq100 ?_;refine R2 ?_;refine J6 rfl (fun hc => zG rfl Tryz.call142 (BJ5 _ qz8) (A2 (A9 rfl hc) B0)) ?_;refine R6 ?_;refine AC2 rfl rfl (BM6 rfl rfl rfl) (fun hc => Ak4 rfl (A9 rfl hc) (J1 (l := []) rfl)) ?_;refine R5 ?_;exact zq10
theorem Bi5 (t : Int) : E1 153 [AV.int t] (AV.bool false) := by
  refine B2 Tryz.func153 rfl Tryz.ntmps153 rfl ?_;refine R12 ?_;exact D5 rfl (A8 rfl (by exact E5 AV.bool Y1))
theorem Bi6 (t : Str) : E1 192 [AV.str t] (AV.bool false) := by
  refine B2 Tryz.func192 rfl Tryz.ntmps192 rfl ?_;refine R12 ?_;exact D5 rfl (A8 rfl (by exact E5 AV.bool Y1))
theorem Bx4 (x y : Int) : E1 111 [AV.int x, AV.int y] (AV.int (AR0 x y)) := by
 refine B2 Tryz.func111 rfl Tryz.ntmps111 rfl ?_;refine R7 ?_;refine zF rfl Tryz.call153 (Bi5 _) I4 ?_;refine R5 ?_;refine zF rfl Tryz.call153 (Bi5 _) I4 ?_;refine zC ?_ ?_
 ·intro h11
  cases h11
 intro h11;refine zC ?_ ?_
 ·intro h13
  cases h13
 intro h13;refine zK ?_ ?_
 ·intro h16 k16;refine R5 ?_;exact D5 rfl (A8 rfl qz161)
 intro h16 k16;refine zK ?_ ?_
 ·intro h19 k19;refine R5 ?_;exact D5 rfl (A8 rfl qz161)
 intro h19 k19;refine R6 ?_;exact D5 rfl (A8 rfl qz161)
theorem Bx5 (x y : Str) : E1 156 [AV.str x, AV.str y] (AV.int (BG3 x y)) := by
 refine B2 Tryz.func156 rfl Tryz.ntmps156 rfl ?_;refine R7 ?_;refine zF rfl Tryz.call192 (Bi6 _) I4 ?_;refine R5 ?_;refine zF rfl Tryz.call192 (Bi6 _) I4 ?_;refine zC ?_ ?_
 ·intro h11
  cases h11
 intro h11;refine zC ?_ ?_
 ·intro h13
  cases h13
 intro h13;refine R6 ?_;refine A1 rfl (w_slss rfl zA zA) ?_;refine zC ?_ ?_
 ·intro h16;refine R5 ?_;exact D5 rfl (A8 rfl qz145)
 intro h16;refine R6 ?_;refine A1 rfl (CF3 rfl zA zA) ?_;refine zC ?_ ?_
 ·intro h19;refine R5 ?_;exact D5 rfl (A8 rfl qz145)
 intro h19;refine R6 ?_;exact D5 rfl (A8 rfl qz145)
end Go.PQ
namespace Go.PQ
open Go.Proofs Go.Proofs.Tryz
open Go Go.AV Go.M
attribute [local irreducible] OpW OpA OpS AWP K6 L8 K7 L1 Le Ev G4
theorem CI7 {l : List A5} (h : C9 A5.size l ≤ 4194304) : ∀ k ∈ T8 l, k.length ≤ 4611686018427387904 := fun k hk => by
  obtain ⟨w, hw, rfl⟩ := m1.1 hk;have := Av0 (f := A5.size) hw;have h2 : w.size = w.Key.length + w.Val.length := rfl;omega
theorem Ad0 (l : List Str) (hs : ∀ k ∈ l, k.length ≤ 4611686018427387904) : E1 87 [strs l] (AV.bool (o8 l)) := by
 refine B2 func87 rfl ntmps87 rfl ?_;refine m2 (t := 0) rfl fun hl => ?_;try simp only [A7] at hl
 refine R12 ?_;refine F8 [(0, _), (5, _), (6, _)] _ (fun (i : Nat) => i ≤ l.length ∧ o8 l = ((l.drop i).all q6 && adj Op.bytesLess (l.drop (i - 1)))) (fun i => []) (fun i => [(7, AV.int i)]) (fun i => l.length - i) (0) ?_ (H0 A4) ?_
 ·exact zq8
 intro i hinv;refine zK ?_ ?_
 ·intro h8 k8;have hlt : i < l.length := by omega
  obtain ⟨x, hx⟩ := B3 hlt;obtain ⟨y, hy⟩ := B3 (show i - 1 < l.length by omega);have hsx := hs x (C2 hx);refine R6 ?_;refine A1 rfl (zX hx) ?_;refine R7 ?_;refine zF rfl call129 (Ay0 _ qz8) (A2 (A0 rfl) B0) ?_;refine R9 ?_;refine AC2 rfl rfl (Z4 rfl rfl rfl) (fun hc => C8 rfl F0 K1 (A9 rfl hc) (A9 rfl hc) hy qz6) ?_;refine R1 ?_;refine AC2 rfl rfl (Z4 rfl rfl rfl) (fun hc => w_sleq rfl (A9 rfl hc) (A9 rfl hc)) ?_;refine zC ?_ ?_
  ·intro h27;have hfin : o8 l = false := by rw [hinv.2]; cases hg : q6 x with | false => (rw [At7 hx hg]; simp) | true => (have hb : 0 < i ∧ Op.bytesLess y x = false := (by have := j8 y x; simp_all; try grind); rw [Al5 hx hy hb.1 hb.2]; simp)
   refine R5 ?_;exact D5 rfl (A8 rfl qz179)
  intro h27;have hg : q6 x = true ∧ (0 < i → Op.bytesLess y x = true) := by have := j8 y x; simp_all
  refine R5 ?_;refine G5 i (i + 1) ?_ ?_ (H0 A4)
  ·exact zq61
  omega
 intro h8 k8;have hge : l.length ≤ i := by omega
 refine R6 ?_;exact D5 rfl (A8 rfl qz179)
theorem CS9 (l : List A5) (hs : C9 A5.size l ≤ 4194304) : E1 133 [AV.list 3 (l.map A5.cs)] (strs (T8 l)) := by
 have hl : l.length ≤ 4194304 := L4 O2 hs;refine B2 func133 rfl ntmps133 rfl ?_;refine R2 ?_;refine zq55 ?_;refine R3 ?_;refine P4 rfl rfl rfl rfl F0 K1 ?_;intro v6;refine R10 ?_;refine J5 [(2, _), (7, _), (8, _)] _ (fun (i : Nat) (v : Value) => i ≤ l.length) (fun i v => [.arr v 9 1 ((l.take i).map fun w => [AV.str w.Key])]) (fun i v => [(3, AV.is v), (9, AV.int i)]) (fun i v => l.length - i) (0) (v6) ?_ (K5 B8 A4) ?_
 ·exact E2 _
 intro i v hinv;refine zK ?_ ?_
 ·intro h10 k10;have hlt : i < l.length := by omega
  obtain ⟨x, hx⟩ := B3 hlt;refine zq0 ?_;intro b5;refine R7 ?_;refine zq121 ?_;intro v17_1;refine R6 ?_;refine G0 i v (i + 1) (v17_1) ?_ ?_ (C7 1 (by exact E5 (fun z => [Own.arr v17_1 9 1 z]) (AS1 (f := fun w : A5 => [AV.str w.Key]) hx)) A4)
  ·omega
  omega
 intro h10 k10;have hge : l.length ≤ i := by omega
 rw [T4 hge];refine R7 ?_;refine Ak7 0 2 rfl rfl ?_;exact D5 rfl (A8 rfl (by exact E5 (AV.list 1) (by unfold T8; rw [List.map_map]; rfl)))
theorem CC4 (w : A5) (h : w.size ≤ 4194304) : E1 135 [AV.agg w.cs] (AV.bool (!AE2 w.Val w.Gone)) := by
  unfold A5.size at h;refine B2 func135 rfl ntmps135 rfl ?_;refine R3 ?_;intro b1;refine R8 ?_;refine zF rfl call130 (BH0 _ _ qz8) (A2 (A0 rfl) (A2 (A0 rfl) B0)) ?_;exact zq109
theorem BS3 (l : List A5) (hs : C9 A5.size l ≤ 4194304) : E1 80 [AV.list 3 (l.map A5.cs)] (AV.bool (AH6 l)) := by
  have hm : ∀ x ∈ l, x.size ≤ 4194304 := fun x hx => L4 (Av0 hx) hs;refine B2 func80 rfl ntmps80 rfl ?_;refine R11 ?_;refine J6 rfl (fun hc => zG rfl call133 (CS9 _ AK2) (A2 (A9 rfl hc) B0)) ?_;refine J6 rfl (fun hc => zG rfl call87 (Ad0 _ (by first | assumption | exact CI7 AK2)) (A2 (A9 rfl hc) B0)) ?_;refine R3 ?_;refine J6 rfl (fun hc => zG rfl call134 (Aq3 _ _ _ Aw1) (A2 (A9 rfl hc) (A2 (BX3 call135 (fun w h => CC4 w h)) B0))) ?_;refine R5 ?_;exact D5 rfl (A8 rfl (by exact E5 AV.bool (by unfold AH6; simp only [A7])))
theorem Bi7 (l : List A5) (hs : C9 A5.size l ≤ 1048576) : E1 84 [AV.list 3 (l.map A5.cs)] (AV.bool (AM4 l)) := by
 refine B2 func84 rfl ntmps84 rfl ?_;refine m2 (t := 0) rfl fun hl => ?_;try simp only [A7] at hl
 refine R12 ?_;refine F8 [(0, _), (5, _), (6, _)] _ (fun (i : Nat) => i ≤ l.length ∧ (l.all AJ8 && adj T9 l) = ((l.drop i).all AJ8 && adj T9 (l.drop (i - 1)))) (fun i => []) (fun i => [(7, AV.int i)]) (fun i => l.length - i) (0) ?_ (H0 A4) ?_
 ·exact zq8
 intro i hinv;refine zK ?_ ?_
 ·intro h8 k8;have hlt : i < l.length := by omega
  obtain ⟨x, hx⟩ := B3 hlt;obtain ⟨y, hy⟩ := B3 (show i - 1 < l.length by omega);have hsx : x.size ≤ 1048576 := L4 (Y4 hx) hs;unfold A5.size at hsx;refine zq23 ?_;intro b4;refine R11 ?_;refine B7 rfl rfl (zG rfl call143 (Bo3 _ _ _ qz8 qz8) (A2 (A0 rfl) (A2 (A0 rfl) (A2 (A0 rfl) B0)))) ?_;refine R8 ?_;refine S5 rfl (Z4 rfl rfl rfl) (fun hc => C8 rfl F3 K9 (A9 rfl hc) (A9 rfl hc) hy qz6) ?_;refine R4 ?_;refine S5 rfl (Z4 rfl rfl rfl) (fun hc => Bk7 rfl (A9 rfl hc) (A9 rfl hc)) ?_;refine zC ?_ ?_
  ·intro h34;have hfin : AM4 l = false := by unfold AM4; rw [hinv.2]; cases hg : AJ8 x with | false => (rw [At7 hx hg]; simp) | true => (have hb : 0 < i ∧ T9 y x = false := (by unfold AJ8 at hg; unfold T9; simp_all; try grind); rw [Al5 hx hy hb.1 hb.2]; simp)
   refine R5 ?_;exact D5 rfl (A8 rfl qz155)
  intro h34;have hg : AJ8 x = true ∧ (0 < i → T9 y x = true) := by unfold AJ8 T9; simp_all
  refine R5 ?_;refine G5 i (i + 1) ?_ ?_ (S4 1 A4)
  ·exact zq61
  omega
 intro h8 k8;have hge : l.length ≤ i := by omega
 refine R9 ?_;exact D5 rfl (A8 rfl qz155)
theorem CI8 (w : A5) (k : Str) : E1 155 [AV.agg w.cs, AV.str k] (AV.int (Bq9 k w)) := by
  refine B2 func155 rfl ntmps155 rfl ?_;refine R3 ?_;intro b2;refine R7 ?_;refine zF rfl call156 (Bx5 _ _) F4 ?_;exact zq136
theorem BB5 (l : List A5) (k : Str) (hs : l.length ≤ 4611686018427387903) : E1 112 [AV.list 3 (l.map A5.cs), AV.str k] (AV.tup [AV.int (Ae0 l k), AV.bool (BC0 l k)]) := by
  refine B2 func112 rfl ntmps112 rfl ?_;refine R9 ?_;refine zF rfl call154 (BV8 _ _ _ Aw1 _ qz8) (A2 (A0 rfl) (A2 (A0 rfl) (A2 (Bs8 call155 (fun w k (_ : True) => CI8 w k)) B0))) ?_;refine R6 ?_;exact zq114
attribute [local irreducible] K8 OpE I7
def N9.ow (c : N9) (x : Value × Value) : List Own := [.arr x.1 9 1 (c.Reads.map (fun x => [AV.str x])), .arr x.2 82 3 (c.Writes.map A5.cs)]
theorem N9.lc (c : N9) (x : Value × Value) : AH5 (N9.ow c x) (N9.ocs c x) c.cs := (C1 E4 (C1 E4 (C1 E4 (C1 E4 (C1 (K3 (C2 (i := 0) rfl) F6) (C1 (K3 (C2 (i := 1) rfl) F6) (C1 E4 Y2)))))))
attribute [local irreducible] M7
theorem BO0 (v : Value) (l : List A5) (w : A5) (hl : l.length ≤ 4194303) : L7 58 [AV.is v, AV.agg w.cs] [.arr v 82 3 (l.map A5.cs)] (fun _ : Value => True) (fun v => [.arr v 82 3 ((CE0 l w).map A5.cs)]) (fun v => AV.is v) := by
 have hle := DE6 l w.Key;refine C6 func58 rfl ntmps58 rfl ?_;refine R3 ?_;intro b3;refine zq7 ?_;refine R6 ?_;refine A1 rfl (m5 rfl call112 rfl (BB5 l w.Key qz8) (Aa8 (I6 (n8 _ _) (I6 (U2 _) V6))) (O6 (Au7 1 zA rfl) Aw3)) ?_;refine zC ?_ ?_
 ·intro h14;obtain ⟨y, hy, _⟩ := BN3.1 h14;have hlt := (G2.1 hy).1;have he : CE0 l w = l.set (Ae0 l w.Key) w := by unfold CE0; rw [D3 h14]
  rw [he];refine R5 ?_;refine A1 rfl (I3 1 rfl F3 K9 zA rfl zA qz8 Ci8) ?_;refine AB5 1 rfl rfl rfl zA zA (i3 _) rfl K9 rfl Ci8 ?_;refine R7 ?_;exact I5 [1] v (trivial) rfl (by first | rfl | exact E5 (fun z => [Own.arr _ 82 3 z]) AJ6) (N4 rfl (A8 rfl V5))
 intro h14;have he : CE0 l w = l.take (Ae0 l w.Key) ++ w :: l.drop (Ae0 l w.Key) := by unfold CE0; rw [C5 (by rw [h14]; decide)]
 rw [he];refine R6 ?_;refine An9 rfl rfl rfl rfl F3 K9 zeroValue82 rfl rfl rfl rfl (D7 zA (i3 _) V1) rfl rfl ?_;intro v23;refine zI [2, 0] rfl call113 (CI6 _ _ l w (Ae0 l w.Key) hle qz8) (A2 (A0 rfl) (A2 (A0 rfl) (A2 (A0 rfl) B0))) rfl ?_;intro x24 ok24;refine R3 ?_;exact I5 [0] x24 (trivial) rfl (by first | rfl | exact E5 (fun z => [Own.arr _ 82 3 z]) AJ6) (N4 rfl (A8 rfl V5))
theorem CI9 (l : List A5) (w : A5) (hl : l.length ≤ 4194303) : L7 167 [AV.list 3 (l.map A5.cs), AV.agg w.cs] [] (fun _ : Value => True) (fun v => [.arr v 82 3 ((Ah5 l w).map A5.cs)]) (fun v => AV.is v) := by
 refine C6 func167 rfl ntmps167 rfl ?_;refine R3 ?_;intro b3;refine zq7 ?_;refine R9 ?_;rw [show (List.map A5.cs l).length = l.length from A7 _];refine F8 [(0, _), (3, _), (4, _)] _ (fun (i : Int) => 0 ≤ i ∧ i ≤ l.length ∧ AM5 l w.Key l.length = AM5 l w.Key i.toNat) (fun i => []) (fun i => [(5, AV.int i)]) (fun i => i.toNat) (l.length) ?_ (H0 A4) ?_
 ·exact ⟨by omega, by omega, rfl⟩
 intro i hinv;obtain ⟨y, hy⟩ := Ai2 l (i - 1).toNat;refine R9 ?_;refine S5 rfl (X0 rfl rfl rfl) (fun hc => C8 rfl F3 K9 (A9 rfl hc) (A9 rfl hc) (hy qz6) qz6) ?_;refine R4 ?_;refine S5 rfl (X0 rfl rfl rfl) (fun hc => CF3 rfl (A9 rfl hc) (A9 rfl hc)) ?_;refine zC ?_ ?_
 ·intro h22;have hb : 0 < i ∧ Op.bytesLess w.Key y.Key = true := by rw [Bt4] at h22; simpa using h22
  have hst : AM5 l w.Key l.length = AM5 l w.Key (i - 1).toNat := by rw [hinv.2.2]; obtain ⟨n, rfl⟩ : ∃ n : Nat, i = n + 1 := ⟨(i - 1).toNat, by omega⟩; rw [show ((n : Int) + 1).toNat = n + 1 by omega, show ((n : Int) + 1 - 1).toNat = n by omega]; exact DI6 (by have := hy qz8; rwa [show ((n : Int) + 1 - 1).toNat = n by omega] at this) hb.2
  refine R7 ?_;refine Ap7 ?_;refine G5 i (i - 1) ?_ ?_ (H0 A4)
  ·exact ⟨by omega, by omega, hst⟩
  omega
 intro h22;obtain ⟨k, rfl⟩ : ∃ k : Nat, i = k := ⟨i.toNat, by omega⟩;have hk : AM5 l w.Key l.length = k := by rw [hinv.2.2, AA4]; rw [Bt4] at h22; rcases Nat.eq_zero_or_pos k with h0 | h0; subst h0; rfl; (obtain ⟨n, rfl⟩ : ∃ n, k = n + 1 := ⟨k - 1, by omega⟩; exact DI7 (by have := hy qz8; rwa [show (((n + 1 : Nat) : Int) - 1).toNat = n by omega] at this) BI1)
 have hh : CW1 l w.Key k = (decide (0 < k) && (y.Key == w.Key)) := by rcases Nat.eq_zero_or_pos k with h0 | h0; subst h0; rfl; (obtain ⟨n, rfl⟩ : ∃ n, k = n + 1 := ⟨k - 1, by omega⟩; have h9 := hy qz8; rw [show (((n + 1 : Nat) : Int) - 1).toNat = n by omega] at h9; simp [CW1, h9])
 refine R10 ?_;refine S5 rfl (X0 rfl rfl rfl) (fun hc => C8 rfl F3 K9 (A9 rfl hc) (A9 rfl hc) (hy qz6) qz6) ?_;refine zC ?_ ?_
 ·intro h37;have hb : 0 < k ∧ y.Key = w.Key := by simpa using h37
  have he : Ah5 l w = l.set (k - 1) w := by unfold Ah5; rw [hk, D3 (by rw [hh]; simp [hb])]
  rw [he];refine R2 ?_;refine zq171 ?_;intro v38;refine R1 ?_;refine G1 (by' := 40) 0 rfl rfl rfl rfl F3 type82 rfl rfl rfl rfl rfl rfl zA zA rfl qz3 ?_;intro v40_1;refine R8 ?_;refine A1 rfl (I3 0 rfl F3 K9 zA rfl zA qz8 (by simp only [AO1, A7]; omega)) ?_;refine AB5 0 rfl rfl rfl zA zA (i3 _) rfl K9 rfl (by simp only [AO1, A7]; omega) ?_;refine R7 ?_;exact I5 [0] v40_1 (trivial) rfl qz135 (N4 rfl (A8 rfl V5))
 intro h37;have he : Ah5 l w = l.take k ++ w :: l.drop k := by unfold Ah5; rw [hk, C5 (by rw [hh]; simpa using h37)]
 rw [he];refine R3 ?_;refine zq171 ?_;intro v47;refine R2 ?_;refine A1 rfl (BR3 rfl F3 K9 zA zA qz3 qz3) ?_;refine G1 (by' := 40) 0 rfl rfl rfl rfl F3 type82 rfl rfl rfl rfl rfl rfl zA zA rfl CP9 ?_;intro v51_2;refine BD6 (AL9 [0] 51 rfl rfl (K3 (C2 (i := 0) rfl) F6) N7) ?_;refine R3 ?_;refine zq52 ?_;refine R2 ?_;refine P7 rfl rfl rfl (fun ext => AN5 rfl F3 K9 zA zA qz3 qz3) ?_;refine R3 ?_;refine S8 rfl rfl rfl (AA1 rfl F3 K9) (fun a _ => qz4) ?_;intro v52 _;refine zq88 ?_;intro v56_3 _;refine zq88 ?_;intro v59_4 _;refine zq88 ?_;intro v61_5 _;refine R4 ?_;exact I5 [1] v61_5 (trivial) rfl qz135 (N4 rfl (A8 rfl V5))
theorem Ce8 (l ws : List A5) (hl : l.length ≤ 2097151) (hw : ws.length ≤ 2097152) : L7 139 [AV.list 3 (l.map A5.cs), AV.list 3 (ws.map A5.cs)] [] (fun _ : Value => True) (fun v => [.arr v 82 3 ((CN9 (AR6 l ws)).map A5.cs)]) (fun v => AV.is v) := by
 refine C6 func139 rfl ntmps139 rfl ?_;refine zq104 ?_;refine zq171 ?_;intro v11;refine R1 ?_;refine G1 (by' := 40) 0 rfl rfl rfl rfl F3 type82 rfl rfl rfl rfl rfl rfl zA zA rfl qz3 ?_;intro v13_1;refine R10 ?_;refine J5 [(4, _), (14, _), (15, _)] _ (fun (i : Nat) (v : Value) => i ≤ ws.length) (fun i v => [.arr v 82 3 ((AR6 l (ws.take i)).map A5.cs)]) (fun i v => [(5, AV.is v), (16, AV.int i)]) (fun i v => ws.length - i) (0) (v13_1) ?_ (K5 B8 A4) ?_
 ·exact E2 _
 intro i v hinv;refine zK ?_ ?_
 ·intro h17 k17;have hlt : i < ws.length := by omega
  obtain ⟨x, hx⟩ := B3 hlt;have hpl := Bm3 (ws.take i) l;rw [H4] at hpl;refine zq0 ?_;intro b7;refine R5 ?_;refine Bl2 [] rfl rfl rfl rfl call167 rfl (CI9 (AR6 l (ws.take i)) x qz8) rfl (O6 (Au7 1 zA rfl) Aw3) qz1 qz1 qz1 ?_;intro x22 ok22;refine R6 ?_;refine G0 i v (i + 1) (x22) ?_ ?_ (Le.trans (B4 [1, 1] rfl) (C7 2 (by rw [show AR6 l (ws.take (i + 1)) = Ah5 (AR6 l (ws.take i)) x from by rw [W1, hx]; exact DI8 _ _ _]; rfl) A4))
  ·omega
  omega
 intro h17 k17;have hge : ws.length ≤ i := by omega
 rw [T4 hge];have hpl := Bm3 ws l;refine R2 ?_;refine AWP.le (AL9 [0] 5 rfl rfl (K3 (C2 (i := 0) rfl) F6) N7) ?_;refine R1 ?_;refine V0 82 3 rfl rfl rfl rfl I2 ?_;intro v8;refine R9 ?_;refine J5 [(4, _), (24, _), (25, _)] _ (fun (i : Nat) (v : Value) => i ≤ (AR6 l ws).length) (fun i v => [.arr v 82 3 (((AR6 l ws).take i).filter (fun w => !w.Gone) |>.map A5.cs)]) (fun i v => [(8, AV.is v), (26, AV.int i)]) (fun i v => (AR6 l ws).length - i) (0) (v8) ?_ (K5 B8 A4) ?_
 ·exact E2 _
 intro i v hinv;refine zK ?_ ?_
 ·intro h27 k27;have hlt : i < (AR6 l ws).length := by omega
  obtain ⟨x, hx⟩ := B3 hlt;have hfl : (((AR6 l ws).take i).filter (fun w : A5 => !w.Gone)).length ≤ 4194304 := L4 (List.length_filter_le _ _) AR9;refine zq0 ?_;intro b10;refine zC ?_ ?_
  ·intro h32;refine R4 ?_;refine G1 (by' := 40) 1 rfl rfl rfl rfl F3 type82 rfl rfl rfl rfl rfl rfl zA zA rfl qz3 ?_;intro v36_2;refine R6 ?_;refine G0 i v (i + 1) (v36_2) ?_ ?_ (Le.trans (B4 [0] rfl) (C7 1 qz119 A4))
   ·omega
   omega
  intro h32;refine R5 ?_;refine G0 i v (i + 1) (v) ?_ ?_ (Le.trans (B4 [0] rfl) (C7 1 qz119 A4))
  ·omega
  omega
 intro h27 k27;have hge : (AR6 l ws).length ≤ i := by omega
 rw [T4 hge];refine R7 ?_;exact I5 [0] (v) (trivial) rfl B8 M9
theorem CT0 (l ws : List A5) (hl : l.length ≤ 2097151) (hw : ws.length ≤ 2097152) : E1 139 [AV.list 3 (l.map A5.cs), AV.list 3 (ws.map A5.cs)] (AV.list 3 ((CN9 (AR6 l ws)).map A5.cs)) :=
  N1 (Ce8 l ws hl hw) fun x _ => K3 (C2 (i := 0) rfl) F6
end Go.PQ
namespace Go.PQ
open Go.Proofs
open Go Go.AV Go.M
attribute [local irreducible] OpW OpA OpS AWP K6 L8 K7 L1 Le Ev G4
theorem Ab3 {c : B6} {n : Nat} (h : c.size ≤ n) : c.Key.length ≤ n ∧ c.Vers.length ≤ n ∧ C9 Y8.size c.Vers ≤ n := by
  unfold B6.size at h;have : c.Vers.length ≤ n := L4 O2 (show C9 Y8.size c.Vers ≤ n by omega);omega
namespace tw6n1
def CO6 := @Tryz.func44
def CO7 := @Tryz.ntmps44
def CO8 := @Tryz.call45
def CO9 := @Z2
end tw6n1
open tw6n1 in
theorem Aq4 (t : Int) : E1 44 [AV.int t] (AV.bool (j6 t)) := BZ2
namespace tw6n2
def CO6 := @Tryz.func232
def CO7 := @Tryz.ntmps232
def CO8 := @Tryz.call71
def CO9 := @Q0
end tw6n2
open tw6n2 in
theorem Cy6 (t : Int) : E1 232 [AV.int t] (AV.bool (within t 1 100000)) := BZ2
namespace tw6n3
def CO6 := @Tryz.func70
def CO7 := @Tryz.ntmps70
def CO8 := @Tryz.call71
def CO9 := @Q0
end tw6n3
open tw6n3 in
theorem Ai5 (t : Int) : E1 70 [AV.int t] (AV.bool (j6 t)) := BZ2
theorem Cy7 (c : B6) (hs : c.size ≤ 4194304) : E1 330 [AV.agg c.cs] (AV.bool (An0 c)) := by
 have hcl := Ab3 hs;refine B2 Tryz.func330 rfl Tryz.ntmps330 rfl ?_;refine R3 ?_;intro b1;refine R11 ?_;refine F8 [(1, _), (6, _), (7, _)] _ (fun (i : Nat) => i ≤ c.Vers.length ∧ (c.Vers.all AY1 && adj AP1 c.Vers) = ((c.Vers.drop i).all AY1 && adj AP1 (c.Vers.drop (i - 1)))) (fun i => []) (fun i => [(8, AV.int i)]) (fun i => c.Vers.length - i) (0) ?_ (H0 A4) ?_
 ·exact zq8
 intro i hinv;refine zK ?_ ?_
 ·intro h9 k9;have hlt : i < c.Vers.length := by omega
  obtain ⟨x, hx⟩ := B3 hlt;obtain ⟨y, hy⟩ := B3 (show i - 1 < c.Vers.length by omega);have hsx : x.size ≤ 4194304 := L4 (Y4 hx) hcl.2.2;unfold Y8.size at hsx;refine zq23 ?_;intro b4;refine R7 ?_;refine B7 rfl rfl (zG rfl Tryz.call187 (Ai4 _) I4) ?_;refine R6 ?_;refine S5 rfl (i5 rfl rfl rfl) (fun hc => zG rfl Tryz.call130 (BH0 _ _ qz8) (A2 (A9 rfl hc) (A2 (A9 rfl hc) B0))) ?_;refine R12 ?_;refine S5 rfl (Z4 rfl rfl rfl) (fun hc => C8 rfl V2 y9 (A9 rfl hc) (A9 rfl hc) hy qz6) ?_;refine zC ?_ ?_
  ·intro h40;have hfin : An0 c = false := by unfold An0; rw [hinv.2]; cases hg : AY1 x with | false => (rw [At7 hx hg]; simp) | true => (have hb : 0 < i ∧ AP1 y x = false := (by unfold AY1 at hg; unfold AP1; simp_all; try grind); rw [Al5 hx hy hb.1 hb.2]; simp)
   refine R5 ?_;exact D5 rfl (A8 rfl qz171)
  intro h40;have hg : AY1 x = true ∧ (0 < i → AP1 y x = true) := by unfold AY1 AP1; simp_all
  refine R5 ?_;refine G5 i (i + 1) ?_ ?_ (S4 1 A4)
  ·exact zq61
  omega
 intro h9 k9;have hge : c.Vers.length ≤ i := by omega
 refine R6 ?_;refine zF rfl Tryz.call45 (Z2 _ _ _) AR2 ?_;refine R3 ?_;exact D5 rfl (A8 rfl qz171)
theorem Cy8 (c : B6) (hs : c.size ≤ 4194304) : E1 338 [AV.agg c.cs] (AV.bool (An1 c)) := by
 have hcl := Ab3 hs;refine B2 Tryz.func338 rfl Tryz.ntmps338 rfl ?_;refine R3 ?_;intro b1;refine R11 ?_;refine F8 [(1, _), (6, _), (7, _)] _ (fun (i : Nat) => i ≤ c.Vers.length ∧ (c.Vers.all (Ah6 c.Key) && adj AP1 c.Vers) = ((c.Vers.drop i).all (Ah6 c.Key) && adj AP1 (c.Vers.drop (i - 1)))) (fun i => []) (fun i => [(8, AV.int i)]) (fun i => c.Vers.length - i) (0) ?_ (H0 A4) ?_
 ·exact zq8
 intro i hinv;refine zK ?_ ?_
 ·intro h9 k9;have hlt : i < c.Vers.length := by omega
  obtain ⟨x, hx⟩ := B3 hlt;obtain ⟨y, hy⟩ := B3 (show i - 1 < c.Vers.length by omega);have hsx : x.size ≤ 4194304 := L4 (Y4 hx) hcl.2.2;unfold Y8.size at hsx;refine zq23 ?_;intro b4;refine R7 ?_;refine B7 rfl rfl (zG rfl Tryz.call232 (Cy6 _) I4) ?_;refine R8 ?_;refine S5 rfl (i5 rfl rfl rfl) (fun hc => zG rfl Tryz.call143 (Bo3 _ _ _ qz8 qz8) (A2 (A9 rfl hc) (A2 (A9 rfl hc) (A2 (A9 rfl hc) B0)))) ?_;refine R10 ?_;refine S5 rfl (Z4 rfl rfl rfl) (fun hc => C8 rfl V2 y9 (A9 rfl hc) (A9 rfl hc) hy qz6) ?_;refine zC ?_ ?_
  ·intro h42;have hfin : An1 c = false := by unfold An1; rw [hinv.2]; cases hg : Ah6 c.Key x with | false => (rw [At7 hx hg]; simp) | true => (have hb : 0 < i ∧ AP1 y x = false := (by unfold Ah6 at hg; unfold AP1; simp_all; try grind); rw [Al5 hx hy hb.1 hb.2]; simp)
   refine R5 ?_;exact D5 rfl (A8 rfl qz170)
  intro h42;have hg : Ah6 c.Key x = true ∧ (0 < i → AP1 y x = true) := by unfold Ah6 AP1; simp_all
  refine R5 ?_;refine G5 i (i + 1) ?_ ?_ (S4 1 A4)
  ·exact zq61
  omega
 intro h9 k9;have hge : c.Vers.length ≤ i := by omega
 refine R5 ?_;refine zq100 ?_;refine R4 ?_;refine zq38 ?_;refine R4 ?_;exact D5 rfl (A8 rfl qz170)
theorem CT1 (l : List B6) (hs : C9 B6.size l ≤ 4194304) : E1 298 [AV.list 2 (l.map B6.cs)] (AV.bool (AA6 l)) := by
 have hl : l.length ≤ 4194304 := L4 O2 hs;have hks : ∀ k ∈ AB2 l, k.length ≤ 4611686018427387904 := fun k hk => by
  obtain ⟨w, hw, rfl⟩ := m1.1 hk;have := Ab3 (L4 (Av0 hw) hs);omega
 refine B2 Tryz.func298 rfl Tryz.ntmps298 rfl ?_;refine R6 ?_;refine P4 rfl rfl rfl rfl F0 K1 ?_;intro v6;refine R10 ?_;refine J5 [(0, _), (7, _), (8, _)] _ (fun (i : Nat) (v : Value) => i ≤ l.length ∧ l.all An0 = (l.drop i).all An0) (fun i v => [.arr v 9 1 ((l.take i).map fun w => [AV.str w.Key])]) (fun i v => [(3, AV.is v), (9, AV.int i)]) (fun i v => l.length - i) (0) (v6) ?_ (K5 B8 A4) ?_
 ·exact zq8
 intro i v hinv;refine zK ?_ ?_
 ·intro h10 k10;have hlt : i < l.length := by omega
  obtain ⟨x, hx⟩ := B3 hlt;have hsx : x.size ≤ 4194304 := L4 (Y4 hx) hs;refine zq0 ?_;intro b5;refine R6 ?_;refine zF rfl Tryz.call330 (Cy7 _ W5) (A2 (A0 rfl) B0) ?_;refine zC ?_ ?_
  ·intro h15;refine R5 ?_;exact D5 rfl (A8 rfl qz125)
  intro h15;refine R6 ?_;refine G1 (by' := 16) 1 rfl rfl rfl rfl F0 Tryz.type9 rfl rfl rfl rfl rfl rfl zA zA rfl qz3 ?_;intro v20_1;refine R6 ?_;refine G0 i v (i + 1) (v20_1) ?_ ?_ (C7 1 (by exact E5 (fun z => [Own.arr v20_1 9 1 z]) (AS1 (f := fun w : B6 => [AV.str w.Key]) hx)) A4)
  ·exact ⟨by omega, by rw [hinv.2, At6 hx Bb0]⟩
  omega
 intro h10 k10;have hge : l.length ≤ i := by omega
 rw [T4 hge, show (l.map fun w => [AV.str w.Key]) = (AB2 l).map (fun k => [AV.str k]) from by unfold AB2; rw [List.map_map]; rfl];refine R8 ?_;refine J6 rfl (fun hc => m5 rfl Tryz.call87 rfl (Ad0 (AB2 l) hks) (U2 _) (O6 (Au7 0 (A9 rfl hc) rfl) o0)) ?_;refine R4 ?_;exact D5 rfl (A8 rfl qz125)
theorem Bx6 (l : List B6) (hs : C9 B6.size l ≤ 4194304) : E1 313 [AV.list 2 (l.map B6.cs)] (AV.bool (Az2 l)) := by
 refine B2 Tryz.func313 rfl Tryz.ntmps313 rfl ?_;refine m2 (t := 0) rfl fun hl => ?_;try simp only [A7] at hl
 refine R12 ?_;refine F8 [(0, _), (5, _), (6, _)] _ (fun (i : Nat) => i ≤ l.length ∧ (l.all An1 && adj w4 l) = ((l.drop i).all An1 && adj w4 (l.drop (i - 1)))) (fun i => []) (fun i => [(7, AV.int i)]) (fun i => l.length - i) (0) ?_ (H0 A4) ?_
 ·exact zq8
 intro i hinv;refine zK ?_ ?_
 ·intro h8 k8;have hlt : i < l.length := by omega
  obtain ⟨x, hx⟩ := B3 hlt;obtain ⟨y, hy⟩ := B3 (show i - 1 < l.length by omega);have hsx : x.size ≤ 4194304 := L4 (Y4 hx) hs;refine zq23 ?_;intro b4;refine R6 ?_;refine B7 rfl rfl (zG rfl Tryz.call338 (Cy8 _ W5) (A2 (A0 rfl) B0)) ?_;refine R8 ?_;refine S5 rfl (Z4 rfl rfl rfl) (fun hc => C8 rfl D6 K0 (A9 rfl hc) (A9 rfl hc) hy qz6) ?_;refine R4 ?_;refine S5 rfl (Z4 rfl rfl rfl) (fun hc => Bk7 rfl (A9 rfl hc) (A9 rfl hc)) ?_;refine zC ?_ ?_
  ·intro h29;have hfin : Az2 l = false := by unfold Az2; rw [hinv.2]; cases hg : An1 x with | false => (rw [At7 hx hg]; simp) | true => (have hb : 0 < i ∧ w4 y x = false := (by unfold w4; simp_all; try grind); rw [Al5 hx hy hb.1 hb.2]; simp)
   refine R5 ?_;exact D5 rfl (A8 rfl qz156)
  intro h29;have hg : An1 x = true ∧ (0 < i → w4 y x = true) := by unfold w4; simp_all
  refine R5 ?_;refine G5 i (i + 1) ?_ ?_ (S4 1 A4)
  ·exact zq61
  omega
 intro h8 k8;have hge : l.length ≤ i := by omega
 refine R9 ?_;exact D5 rfl (A8 rfl qz156)
theorem CT2 (c : B6) (k : Str) : E1 327 [AV.agg c.cs, AV.str k] (AV.int (CE1 k c)) := by
  refine B2 Tryz.func327 rfl Tryz.ntmps327 rfl ?_;refine R3 ?_;intro b2;refine R7 ?_;refine zF rfl Tryz.call156 (Bx5 _ _) F4 ?_;exact zq136
theorem BH1 (l : List B6) (k : Str) (hs : l.length ≤ 4611686018427387903) : E1 296 [AV.list 2 (l.map B6.cs), AV.str k] (AV.tup [AV.int (AI9 l k), AV.bool (Az3 l k)]) := by
  refine B2 Tryz.func296 rfl Tryz.ntmps296 rfl ?_;refine R9 ?_;refine zF rfl Tryz.call326 (BY7 _ _ _ Aw1 _ qz8) (A2 (A0 rfl) (A2 (A0 rfl) (A2 (Bs8 Tryz.call327 (fun c k (_ : True) => CT2 c k)) B0))) ?_;refine R6 ?_;exact zq114
theorem Ca8 {c : B6} (h : 1 ≤ c.Vers.length) : ∃ v, c.Vers[c.Vers.length - 1]? = some v ∧ Ck1 c = v.Time := by
  obtain ⟨v, hv⟩ := B3 (show c.Vers.length - 1 < c.Vers.length by omega);refine ⟨v, hv, ?_⟩;unfold Ck1; rw [List.getLast?_eq_getElem?, hv]
theorem Ce9 (l : List B6) (k : Str) (ho : AP2 l) (hs : C9 B6.size l ≤ 4194304) : E1 295 [AV.list 2 (l.map B6.cs), AV.str k] (AV.int (O9 l k)) := by
 have hl : l.length ≤ 4194304 := L4 O2 hs;refine B2 Tryz.func295 rfl Tryz.ntmps295 rfl ?_;refine R8 ?_;refine zF rfl Tryz.call296 (BH1 _ _ W5) (A2 (A0 rfl) (A2 (A0 rfl) B0)) ?_;refine zC ?_ ?_
 ·intro h14;have hn : Az3 l k = false := by simpa using h14
  have he : O9 l k = 0 := by unfold O9; rw [CB0 ho.1, hn]; rfl
  rw [he];refine R5 ?_;exact zq10
 intro h14;have hn : Az3 l k = true := by simpa using h14
 obtain ⟨c, hc, hck⟩ := BA9.1 hn;obtain ⟨v, hv, hlv⟩ := Ca8 (ho.2 c (C2 hc));have hcl := Ab3 (L4 (Y4 hc) hs);have hc1 := ho.2 c (C2 hc);have he : O9 l k = v.Time := by unfold O9; rw [CB0 ho.1, hn, D3 rfl, hc]; exact hlv
 rw [he];refine R5 ?_;refine B7 rfl rfl (zX hc) ?_;refine R4 ?_;refine B7 rfl rfl (zX hc) ?_;refine R4 ?_;refine B7 rfl rfl (zX hv) ?_;refine R5 ?_;exact zq10
theorem Bo4 (l : List B6) (k : Str) : E1 324 [AV.list 2 (l.map B6.cs), AV.str k] (AV.int (atC l k)) := by
 refine B2 Tryz.func324 rfl Tryz.ntmps324 rfl ?_;refine m2 (t := 0) rfl fun hl => ?_;try simp only [A7] at hl
 refine R12 ?_;refine F8 [(1, _), (7, _), (8, _)] _ (fun (i : Nat) => i ≤ l.length ∧ ∀ j x, j < i → l[j]? = some x → x.Key ≠ k) (fun i => []) (fun i => [(9, AV.int i)]) (fun i => l.length - i) (0) ?_ (H0 A4) ?_
 ·exact ⟨E2 _, fun j x h => by omega⟩
 intro i hinv;refine zK ?_ ?_
 ·intro h10 k10;have hlt : i < l.length := by omega
  obtain ⟨x, hx⟩ := B3 hlt;refine zq23 ?_;intro b6;refine zC ?_ ?_
  ·intro h17;refine R6 ?_;exact D5 rfl (A8 rfl qz129)
  intro h17;refine R5 ?_;refine G5 i (i + 1) ?_ ?_ (S4 1 A4)
  ·exact ⟨by omega, fun j y hj hy => if hji : j < i then hinv.2 j y hji hy else (by have e : j = i := qz8; subst e; rw [hx] at hy; injection hy with hy; subst hy; simpa using h17)⟩
  omega
 intro h10 k10;have hge : l.length ≤ i := by omega
 refine R6 ?_;exact D5 rfl (A8 rfl qz129)
theorem BV9 (l : List B6) (k : Str) (ho : AP2 l) (hs : C9 B6.size l ≤ 4194304) : E1 312 [AV.list 2 (l.map B6.cs), AV.str k] (AV.int (O9 l k)) := by
 refine B2 Tryz.func312 rfl Tryz.ntmps312 rfl ?_;refine R8 ?_;refine zF rfl Tryz.call324 (Bo4 _ _) F4 ?_;refine zK ?_ ?_
 ·intro h10 k10;have hn : m8 l k = none := CR6 k10;have he : O9 l k = 0 := by unfold O9; rw [hn]
  rw [he];refine R5 ?_;exact zq10
 intro h10 k10;obtain ⟨p, c, hp, hc, hf⟩ := CR7 k10;rw [hp];obtain ⟨v, hv, hlv⟩ := Ca8 (ho.2 c (C2 hc));have hcl := Ab3 (L4 (Y4 hc) hs);have hc1 := ho.2 c (C2 hc);have he : O9 l k = v.Time := by unfold O9; rw [hf]; exact hlv
 rw [he];refine R5 ?_;refine B7 rfl rfl (zX hc) ?_;refine R4 ?_;refine B7 rfl rfl (zX hc) ?_;refine R4 ?_;refine B7 rfl rfl (zX hv) ?_;refine R5 ?_;exact zq10
end Go.PQ
namespace Go.M
open Go.AV
structure Z3 where
  p : Nat
  seed : Int
def An4 (l : List Int) : AV := AV.list 1 (l.map fun x => [AV.ik .u8 x])
def Y0 (code : List Int) (c : Z3) : List AV := [An4 code, AV.int c.p, AV.ik .u64 c.seed]
def AB3 (code : List Int) : Prop := ∀ x ∈ code, 0 ≤ x ∧ x ≤ 255
theorem Cq0 {l : List Int} (h : ∀ x ∈ l, (Lit.int .u8 x).wf = true) : AB3 l := fun x hx => by
  have := h x hx;simp only [Lit.wf, IntKind.min, IntKind.max, IntKind.signed, IntKind.bits] at this;simp at this;omega
theorem Bu0 {x : Int} (h : 0 ≤ x ∧ x ≤ 255) : IntKind.i64.wrap x = x := BU2 qz8
theorem Af1 (x : Int) : 0 ≤ T3 x 255 ∧ T3 x 255 ≤ 255 := by
  unfold T3;have h1 : (BitVec.ofInt IntKind.u64.bits x &&& BitVec.ofInt IntKind.u64.bits 255).toNat ≤ 255 := by
    rw [BitVec.toNat_and];exact L4 Nat.and_le_right D4
  generalize (BitVec.ofInt IntKind.u64.bits x &&& BitVec.ofInt IntKind.u64.bits 255).toNat = n at h1
  unfold IntKind.wrap;simp [IntKind.bits, IntKind.signed];omega
def bigB (code more : List Int) : Bool := decide ((1048576 : Int) < code.length) || decide ((1048576 : Int) - code.length < more.length)
end Go.M
namespace Go.PQ
open Go.Proofs Go.Proofs.Tryz
open Go Go.AV Go.M
attribute [local irreducible] OpW OpA OpS AWP K6 L8 K8 OpE K7 I7 L1 Le Ev G4 M7 Int.tmod IntKind.wrap T3
theorem Bx7 (b : Nat) (code : List Int) (hcode : AB3 code) (c : Z3) (hp : c.p ≤ 8000000) : L7 141 [AV.ptr b 0] [.box b 86 (Y0 code c)] (fun x : Z3 × Int => x.1.p ≤ c.p + 1 ∧ 0 ≤ x.2 ∧ x.2 ≤ 255) (fun x => [.box b 86 (Y0 code x.1)]) (fun x => AV.int x.2) := by
 have hcb := hcode;refine C6 func141 rfl ntmps141 rfl ?_;refine R6 ?_;try rw [Bu0 hzb]
 refine zK ?_ ?_
 ·intro h13 k13;obtain ⟨z, hz⟩ := B3 (show c.p < code.length by omega);have hzb := hcb z (C2 hz);refine R9 ?_;refine B7 rfl rfl (C8 rfl AF9 sizeOf5 zA zA hz rfl) ?_;refine R1 ?_;refine B7 rfl rfl (Ap9 rfl E6 m7 zA) ?_;try rw [Bu0 hzb]
  refine R20 ?_;refine zq161 ?_;refine zC ?_ ?_
  ·intro h53;refine R6 ?_
   (refine I5 [0] ((⟨c.p + 1, _⟩, _)) ?_ rfl n9 (N4 rfl (A8 rfl V5)); first | exact ⟨N2 _, hzb⟩ | exact ⟨N2 _, Int.le_refl 0, (show (0 : Int) ≤ 255 by decide)⟩ | (rw [Bu0 (Af1 _)]; exact ⟨N2 _, Af1 _⟩))
  intro h53;refine zq188 ?_
  (refine I5 [0] ((⟨c.p + 1, _⟩, _)) ?_ rfl n9 (N4 rfl (A8 rfl V5)); first | exact ⟨N2 _, hzb⟩ | exact ⟨N2 _, Int.le_refl 0, (show (0 : Int) ≤ 255 by decide)⟩ | (rw [Bu0 (Af1 _)]; exact ⟨N2 _, Af1 _⟩))
 intro h13 k13;refine R19 ?_;refine zq161 ?_;refine zC ?_ ?_
 ·intro h53;refine R6 ?_
  (refine I5 [0] ((⟨c.p + 1, _⟩, _)) ?_ rfl n9 (N4 rfl (A8 rfl V5)); first | exact ⟨N2 _, hzb⟩ | exact ⟨N2 _, Int.le_refl 0, (show (0 : Int) ≤ 255 by decide)⟩ | (rw [Bu0 (Af1 _)]; exact ⟨N2 _, Af1 _⟩))
 intro h53;refine zq188 ?_
 (refine I5 [0] ((⟨c.p + 1, _⟩, _)) ?_ rfl n9 (N4 rfl (A8 rfl V5)); first | exact ⟨N2 _, hzb⟩ | exact ⟨N2 _, Int.le_refl 0, (show (0 : Int) ≤ 255 by decide)⟩ | (rw [Bu0 (Af1 _)]; exact ⟨N2 _, Af1 _⟩))
theorem Q6 (b : Nat) (code : List Int) (hcode : AB3 code) (c : Z3) (n : Int) (hn : n ≤ 1000000) (hp : c.p ≤ 7000000) : L7 82 [AV.ptr b 0, AV.int n] [.box b 86 (Y0 code c)] (fun x : Z3 × Int => x.1.p ≤ c.p + 2 ∧ 0 ≤ x.2 ∧ (x.2 < n ∨ x.2 = 0)) (fun x => [.box b 86 (Y0 code x.1)]) (fun x => AV.int x.2) := by
 refine C6 func82 rfl ntmps82 rfl ?_;refine zK ?_ ?_
 ·intro h7 k7;refine R5 ?_
  (refine I5 [0] ((_, _)) ?_ rfl n9 (N4 rfl (A8 rfl V5)); (dsimp only; first | omega | exact ⟨by omega, Int.tmod_nonneg _ qz8, .inl (Int.tmod_lt_of_pos _ qz8)⟩))
 intro h7 k7;refine R4 ?_;refine zI [0] rfl call141 (Bx7 _ _ hcode _ qz8) (A2 (A0 rfl) B0) rfl ?_;intro x9 ok9;refine zK ?_ ?_
 ·intro h11 k11;refine R2 ?_;refine A1 rfl (Ap8 rfl zA J4 qz3) ?_;refine R1 ?_;refine zI [0] rfl call141 (Bx7 _ _ hcode _ qz8) (A2 (A0 rfl) B0) rfl ?_;intro x15 ok15;refine R7 ?_;refine A1 rfl (Bc3 rfl zA zA qz8) ?_;refine R3 ?_
  (refine I5 [0] ((_, _)) ?_ rfl n9 (N4 rfl (A8 rfl V5)); (dsimp only; first | omega | exact ⟨by omega, Int.tmod_nonneg _ qz8, .inl (Int.tmod_lt_of_pos _ qz8)⟩))
 intro h11 k11;refine R5 ?_;refine A1 rfl (Bc3 rfl zA zA qz8) ?_;refine R3 ?_
 (refine I5 [0] ((_, _)) ?_ rfl n9 (N4 rfl (A8 rfl V5)); (dsimp only; first | omega | exact ⟨by omega, Int.tmod_nonneg _ qz8, .inl (Int.tmod_lt_of_pos _ qz8)⟩))
theorem Ay1 (b : Nat) (code : List Int) (hcode : AB3 code) (c : Z3) (n : Int) (hn : n ≤ 1000000) (hp : c.p ≤ 7000000) : L7 136 [AV.ptr b 0, AV.int n] [.box b 86 (Y0 code c)] (fun x : Z3 × Bool => x.1.p ≤ c.p + 2) (fun x => [.box b 86 (Y0 code x.1)]) (fun x => AV.bool x.2) := by
  refine C6 func136 rfl ntmps136 rfl ?_;refine R8 ?_;refine zI [0] rfl call82 (Q6 _ _ hcode _ _ qz8 qz8) (A2 (A0 rfl) (A2 (A0 rfl) B0)) rfl ?_;intro x7 ok7;refine R4 ?_
  (refine I5 [0] ((_, _)) ?_ rfl n9 M9; exact ok7.1)
theorem DV8 (b : Nat) (code : List Int) (hcode : AB3 code) (c : Z3) (l : List Str) (hl : (∀ s ∈ l, s.length ≤ 64) ∧ 1 ≤ l.length ∧ l.length ≤ 1000) (hp : c.p ≤ 7000000) : L7 180 [AV.ptr b 0, strs l] [.box b 86 (Y0 code c)] (fun x : Z3 × Str => x.1.p ≤ c.p + 2 ∧ x.2.length ≤ 64) (fun x => [.box b 86 (Y0 code x.1)]) (fun x => AV.str x.2) := by
  obtain ⟨hls, hl1, hl2⟩ := hl;refine C6 func180 rfl ntmps180 rfl ?_;refine zq149 ?_;refine R7 ?_;refine zq120 ?_;intro x9 ok9;simp only [A7] at ok9;obtain ⟨y, hy⟩ := B3 (show x9.2.toNat < l.length by omega);refine A1 rfl (C8 rfl F0 K1 zA zA hy qz8) ?_;refine R4 ?_
  (refine I5 [0] ((_, _)) ?_ rfl n9 M9; exact ⟨ok9.1, hls _ (C2 hy)⟩)
theorem AM0 (b : Nat) (code : List Int) (hcode : AB3 code) (c : Z3) (l : List Int) (hl : 1 ≤ l.length ∧ l.length ≤ 1000) (hp : c.p ≤ 7000000) : L7 86 [AV.ptr b 0, ints l] [.box b 86 (Y0 code c)] (fun x : Z3 × Int => x.1.p ≤ c.p + 2 ∧ x.2 ∈ l) (fun x => [.box b 86 (Y0 code x.1)]) (fun x => AV.int x.2) := by
  obtain ⟨hl1, hl2⟩ := hl;refine C6 func86 rfl ntmps86 rfl ?_;refine R10 ?_;refine zq120 ?_;intro x9 ok9;simp only [A7] at ok9;obtain ⟨y, hy⟩ := B3 (show x9.2.toNat < l.length by omega);refine A1 rfl (C8 rfl H7 F2 zA zA hy qz8) ?_;refine R4 ?_
  (refine I5 [0] ((_, _)) ?_ rfl n9 M9; exact ⟨ok9.1, C2 hy⟩)
end Go.PQ
namespace Go.PQ
open Go.Proofs
open Go Go.AV Go.M
attribute [local irreducible] OpW OpA OpS AWP K6 L8 K8 OpE K7 I7 L1 Le Ev G4 M7
theorem big_spec (code more : List Int) : E1 4 [An4 code, An4 more] (AV.bool (bigB code more)) := by
 refine B2 Tryz.func4 rfl Tryz.ntmps4 rfl ?_;refine m2 (t := 0) rfl fun hl0 => ?_;try simp only [A7] at hl0
 refine m2 (t := 1) rfl fun hl1 => ?_;try simp only [A7] at hl1
 refine R14 ?_;refine T6 rfl (fun hc => w_subi rfl J4 (A9 rfl hc) AF3) ?_;refine R5 ?_;exact D5 rfl (A8 rfl (by (refine E5 AV.bool ?_; unfold bigB; simp only [A7])))
attribute [local irreducible] Int.tmod Int.tdiv IntKind.wrap
theorem BW0 (n : Int) : E1 78 [AV.int n] (AV.bool (AS6 n)) := by
  refine B2 Tryz.func78 rfl Tryz.ntmps78 rfl ?_;refine R7 ?_;refine zF rfl Tryz.call45 (Z2 _ _ _) AR2 ?_;refine R3 ?_;exact zq5
namespace tw6n4
def CO6 := @Tryz.func232
def CO7 := @Tryz.ntmps232
def CO8 := @Tryz.call71
def CO9 := @Q0
end tw6n4
open tw6n4 in
theorem Am1 (t : Int) : E1 232 [AV.int t] (AV.bool (within t 1 100000)) := BZ2
theorem Bo5 {r : N9} (hs : r.size ≤ 1048576) : (∀ k ∈ r.Reads, k.length ≤ 4611686018427387904) ∧ C9 A5.size r.Writes ≤ 1048576 ∧ r.Reads.length ≤ 1048576 ∧ r.Writes.length ≤ 1048576 := by
  unfold N9.size at hs;have h1 := O2 (f := fun x : Str => x.length) (l := r.Reads);have h2 := O2 (f := A5.size) (l := r.Writes);exact ⟨fun k hk => by have := Av0 (f := fun x : Str => x.length) hk; omega, by omega, by omega, by omega⟩
theorem Cq1 (r : N9) (hs : r.size ≤ 1048576) : E1 148 [AV.agg r.cs] (AV.bool (T2 r)) := by
 obtain ⟨hr1, hr2, hr3, hr4⟩ := Bo5 hs;refine B2 Tryz.func148 rfl Tryz.ntmps148 rfl ?_;refine R3 ?_;intro b1;refine zC ?_ ?_
 ·intro h21;have k21 := J3 h21;(try simp only [A7] at k21);refine R4 ?_;refine zF rfl Tryz.call78 (BW0 _) I4 ?_;refine R3 ?_;refine J6 rfl (fun hc => zG rfl Tryz.call187 (Ai4 _) zS) ?_;refine R4 ?_;refine zq156 ?_;refine R10 ?_;refine J6 rfl (fun hc => zG rfl Tryz.call87 (Ad0 r.Reads hr1) zS) ?_;refine R10 ?_;refine J6 rfl (fun hc => zG rfl Tryz.call80 (BS3 r.Writes qz8) zS) ?_;refine R19 ?_;exact D5 rfl (A8 rfl Bz3)
 intro h21;have k21 := J0 h21;(try simp only [A7] at k21);refine zC ?_ ?_
 ·intro h73;have k73 := J3 h73;(try simp only [A7] at k73);refine zC ?_ ?_
  ·intro h73;have k73 := J3 h73;(try simp only [A7] at k73);refine R6 ?_;exact zq94
  intro h73;have k73 := J0 h73;(try simp only [A7] at k73);refine zC ?_ ?_
  ·intro h101;have k101 := J3 h101;(try simp only [A7] at k101);exact zq163
  intro h101;have k101 := J0 h101;(try simp only [A7] at k101);refine R6 ?_;exact D5 rfl (A8 rfl Bz3)
 intro h73;have k73 := J0 h73;(try simp only [A7] at k73);refine zC ?_ ?_
 ·intro h73;have k73 := J3 h73;(try simp only [A7] at k73);refine R6 ?_;exact zq94
 intro h73;have k73 := J0 h73;(try simp only [A7] at k73);refine zC ?_ ?_
 ·intro h101;have k101 := J3 h101;(try simp only [A7] at k101);exact zq163
 intro h101;have k101 := J0 h101;(try simp only [A7] at k101);refine R6 ?_;exact D5 rfl (A8 rfl Bz3)
theorem Cy9 (l : List Str) (hs : ∀ k ∈ l, k.length ≤ 4611686018427387904) : E1 233 [strs l] (AV.bool (Ba3 l)) := by
 refine B2 Tryz.func233 rfl Tryz.ntmps233 rfl ?_;refine m2 (t := 0) rfl fun hl => ?_;try simp only [A7] at hl
 refine R12 ?_;refine F8 [(0, _), (5, _), (6, _)] _ (fun (i : Nat) => i ≤ l.length ∧ (l.all r5 && adj Op.bytesLess l) = ((l.drop i).all r5 && adj Op.bytesLess (l.drop (i - 1)))) (fun i => []) (fun i => [(7, AV.int i)]) (fun i => l.length - i) (0) ?_ (H0 A4) ?_
 ·exact zq8
 intro i hinv;refine zK ?_ ?_
 ·intro h8 k8;have hlt : i < l.length := by omega
  obtain ⟨x, hx⟩ := B3 hlt;obtain ⟨y, hy⟩ := B3 (show i - 1 < l.length by omega);have hsx := hs x (C2 hx);refine R6 ?_;refine A1 rfl (Ac0 rfl F0 K1 zA zA qz8 qz197) ?_;refine R7 ?_;refine zq100 ?_;refine R8 ?_;refine AC2 rfl rfl (Z4 rfl rfl rfl) (fun hc => Ac0 rfl F0 K1 (A9 rfl hc) (A9 rfl hc) (by have := AD2 (BI6 hc); omega) qz112) ?_;refine zq133 ?_;refine zC ?_ ?_
  ·intro h27;have hfin : (l.all r5 && adj Op.bytesLess l) = false := by rw [hinv.2, J7 hx, AC0]; cases hg : r5 x with | false => simp | true => (simp only [hg, Bool.not_true, Bool.false_or, D8, H5, q7] at h27; rw [Al5 hx hy qz8 h27.2]; simp)
   refine R5 ?_;exact D5 rfl (A8 rfl qz148)
  intro h27;refine R5 ?_;refine G5 i (i + 1) ?_ ?_ (H0 A4)
  ·exact zq130
  omega
 intro h8 k8;have hge : l.length ≤ i := by omega
 refine R9 ?_;exact D5 rfl (A8 rfl qz148)
theorem Bx8 (r : N9) (hs : r.size ≤ 1048576) : E1 200 [AV.agg r.cs] (AV.bool (BG4 r)) := by
 obtain ⟨hr1, hr2, hr3, hr4⟩ := Bo5 hs;refine B2 Tryz.func200 rfl Tryz.ntmps200 rfl ?_;refine R3 ?_;intro b1;refine zC ?_ ?_
 ·intro h20;have ho : BH6 r = true := by (unfold BH6; simpa using h20)
  refine R5 ?_;exact D5 rfl (A8 rfl CQ2)
 intro h20;have ho : BH6 r = false := by (unfold BH6; simpa using h20)
 refine zC ?_ ?_
 ·intro h23;have k23 := J3 h23;(try simp only [A7] at k23);refine R4 ?_;refine zF rfl Tryz.call71 (Q0 _ _ _) AR2 ?_;refine R3 ?_;refine J6 rfl (fun hc => zG rfl Tryz.call232 (Am1 _) zS) ?_;refine R4 ?_;refine zq38 ?_;refine R4 ?_;refine J6 rfl (fun hc => zG rfl Tryz.call233 (Cy9 r.Reads hr1) zS) ?_;refine R4 ?_;refine J6 rfl (fun hc => zG rfl Tryz.call84 (Bi7 r.Writes qz8) zS) ?_;refine R5 ?_;refine zq38 ?_;refine R19 ?_;exact D5 rfl (A8 rfl CQ2)
 intro h23;have k23 := J0 h23;(try simp only [A7] at k23);refine zC ?_ ?_
 ·intro h69;have k69 := J3 h69;(try simp only [A7] at k69);refine zC ?_ ?_
  ·intro h69;have k69 := J3 h69;(try simp only [A7] at k69);refine R4 ?_;exact zq107
  intro h69;have k69 := J0 h69;(try simp only [A7] at k69);exact zq155
 intro h69;have k69 := J0 h69;(try simp only [A7] at k69);refine zC ?_ ?_
 ·intro h69;have k69 := J3 h69;(try simp only [A7] at k69);refine R4 ?_;exact zq107
 intro h69;have k69 := J0 h69;(try simp only [A7] at k69);exact zq155
theorem BO1 (r : N9) (hs : r.size ≤ 1048576) : E1 162 [AV.agg r.cs] (AV.bool (BG4 r)) := by
  refine B2 Tryz.func162 rfl Tryz.ntmps162 rfl ?_;refine R3 ?_;intro b1;refine R5 ?_;refine zF rfl Tryz.call200 (Bx8 _ W5) (A2 (A0 rfl) B0) ?_;exact zq136
end Go.PQ
namespace Go.AV
open Go.Sort
theorem core_row {R : H2} {w w' : World} {v : Value} {g : Nat} {t : TypeId} {sz : Nat} {es es' : List (List AV)} {xs : List Value} (hb : v.ownBlock = some g) (hr : RLe R w) (hR : R g = none) (hg : w.grownBy w' (some g))
    (hown : w'.ownsRow 0 t sz v es'.length xs) (hd : n7 R xs es'.flatten) (hsz : ∀ e ∈ es', e.length = sz) :
    U0 (AV4 [.arr v t sz es]) w R [.arr v t sz es'] R w' := by
  refine ⟨hg.os, hg.tape, hg.output, hg.size, fun k hk hG => hg.block k hk fun e => hG ⟨_, X9.2 rfl, ?_⟩, fun b o hbo => ?_, fun _ _ => rfl, fun o ho => ?_, fun o ho b e => ?_, ?_⟩
  · injection e with e; subst e; exact hb
  · have h1 := hr b o hbo
    have hlt : b < w.heap.size := (AZ8.1 h1).1;rw [hg.block b hlt fun e => by injection e with e; subst e; rw [hR] at hbo; cases hbo]; exact h1
  · rw [X9.1 ho]
    exact ⟨fun b e => by rw [hb] at e; injection e with e; subst e; exact hR, hsz, xs, hown, hd⟩
  · rw [X9.1 ho] at e
    exact .inr ⟨_, X9.2 rfl, e⟩
  · simp [Own.blk, hb]
theorem DV9 {R : H2} {w : World} {o : Own} (hr : RLe R w) (ho : Own.ok R w o) : U0 (AV4 [o]) w R [o] R w :=
  ⟨rfl, rfl, rfl, N2 _, fun _ _ _ => rfl, hr, fun _ _ => rfl, fun q hq => by rw [X9.1 hq]; exact ho, fun q hq b e => .inr ⟨q, hq, e⟩, by
    simp only [Aj6, List.filterMap_nil]
    cases Own.blk o <;> simp⟩
theorem denC_is {R : H2} {vs ys : List Value} (h : n7 R vs (ys.map AV.is)) : vs = ys := by
  refine List.ext_getElem? fun i => ?_;have hl := h.1;rw [A7] at hl;by_cases hi : i < ys.length
  · have h1 : vs[i]? = some vs[i] := P2 qz8
    have h2 : (ys.map AV.is)[i]? = some (AV.is ys[i]) := by rw [Z5, P2 hi]; rfl
    have h3 := (h.2 i _ _ h1 h2).1;rw [h1, P2 hi];exact E5 some h3
  · rw [AT6 qz8, AT6 qz8]
theorem denC_mk {R : H2} {ys : List Value} (h : ∀ y ∈ ys, y.oneCell' = true) : n7 R ys (ys.map AV.is) := by
  refine ⟨by rw [A7], fun i v x hv hx => ?_⟩;rw [Z5, hv] at hx;injection hx with hx; subst hx
  exact ⟨rfl, h v (C2 hv)⟩
theorem Bx9 {α : Type} (c : α → AV) (l : List α) : (l.map fun n => [c n]).flatten = l.map c := by
  induction l with
  | nil => rfl
  | cons x l ih => simp [ih]
section ordered
variable {P : Program} {f : FuncId} {t : TypeId} {α : Type} [Inhabited α]
theorem row_own1 (enc : α → Value) (h1c : ∀ x, (enc x).oneCell' = true) (srt : List α → List α) (hsl : ∀ l, (srt l).length = l.length)
    (h1 : ∀ (blk off cap : Nat) (zs : List α) (w : World), Holds enc w blk off zs.toArray → blk < w.heap.size → zs.length < 4611686018427387904 →
      Calls P f #[.slice (some ⟨blk, off, none⟩) zs.length cap] w fun e w' => e = .returned (.tuple #[]) ∧ ∃ n os, w' = grow (putRow enc (Sort.ahead w n) blk off (srt zs).toArray) os)
    (h0 : ∀ (p : Option Addr) (cap : Nat) (w : World), Calls P f #[.slice p 0 cap] w fun e w' => e = .returned (.tuple #[]) ∧ w' = w)
    (v : Value) (l : List α) (hl : l.length < 4611686018427387904) :
    K8 P f [AV.is v] [.arr v t 1 (l.map fun n => [AV.is (enc n)])] (fun _ : Unit => True) (fun _ => [.arr v t 1 ((srt l).map fun n => [AV.is (enc n)])]) (fun _ => AV.tup []) := by
  intro R w vs hr hd hok hnd;have hvs : vs = [v] := by
    obtain ⟨hlen, hval⟩ := hd
    cases vs with
    | nil => simp at hlen
    | cons a r =>
      cases r with
      | nil => have h9 := hval 0 a (AV.is v) rfl rfl; rw [show a = v from h9]
      | cons b r => simp at hlen
  subst hvs;have ho := hok _ (X9.2 rfl);obtain ⟨hR, hsz, xs, hown, hden⟩ := ho;have hxs : xs = l.map enc := by
    rw [Bx9 (fun n => AV.is (enc n))] at hden;have h9 : l.map (fun n => AV.is (enc n)) = (l.map enc).map AV.is := by simp
    rw [h9] at hden;exact denC_is hden
  rw [A7] at hown;rcases hown.2 with ⟨hv, hn⟩ | ⟨g, cap, cur, hv, _, hg, hnc, hcm, hcs, htk⟩
  · have hl0 : l = [] := List.length_eq_zero_iff.1 hn
    subst hv; subst hl0;have hs0 : srt [] = [] := List.length_eq_zero_iff.1 (hsl []);refine (h0 none 0 w).mono ?_
    rintro e w' ⟨rfl, rfl⟩
    refine ⟨(), _, R, trivial, rfl, ⟨[], rfl, i4.nil _⟩, ?_⟩;rw [hs0];exact DV9 hr (hok _ (X9.2 rfl))
  · subst hv
    have hgl : g < w.heap.size := (AZ8.1 hg).1;rw [Nat.mul_one] at htk hcs;have hH : Holds enc w g 0 l.toArray := fun j hj => by
      have hj' : j < l.length := by simpa using hj
      have h9 : cur.toList[j]? = some (enc l[j]) := by
        rw [← AH0 hj', htk, hxs, Z5, P2 hj']; rfl
      refine ⟨?_, by simp [World.frozen?, hg]⟩;simp only [World.cell?, hg, Nat.zero_add];simp only [Option.isSome_none, Bool.false_eq_true, if_false];rw [← Array.getElem?_toList, h9];simp [hj']
    refine (h1 g 0 cap l w hH hgl hl).mono ?_
    rintro e w' ⟨rfl, n, os, rfl⟩
    refine ⟨(), _, R, trivial, rfl, ⟨[], rfl, i4.nil _⟩, ?_⟩;have hgb : w.grownBy (grow (putRow enc (Sort.ahead w n) g 0 (srt l).toArray) os) (some g) := by
      refine ⟨rfl, rfl, rfl, by simp, fun k hk hne => ?_⟩;rw [heap_grow_old _ _ (by simpa using hk)];have h9 : g ≠ k := fun e => hne (by rw [e]);simp [putRow, mapBlock, Sort.ahead, Array.getElem?_modify, h9]
    have hheap : (grow (putRow enc (Sort.ahead w n) g 0 (srt l).toArray) os).heap[g]? = some (.cells (putCells enc 0 (srt l).toArray cur) t (0, 0)) := by
      rw [heap_grow_old _ _ (by simpa using hgl)];simp [putRow, mapBlock, Sort.ahead, Array.getElem?_modify, hg, onCells]
    refine core_row (g := g) (xs := (srt l).map enc) rfl hr (hR g rfl) hgb ?_ ?_ ?_
    · rw [A7, hsl]
      refine ⟨by simp [hsl], .inr ⟨g, cap, _, rfl, E2 _, hheap, hnc, hcm, by simp [putCells, hcs], ?_⟩⟩;apply List.ext_getElem?
      intro j;by_cases hj : j < l.length
      · rw [AH0 qz8, Array.getElem?_toList]
        have h8 : j < (srt l).length := by rw [hsl]; exact hj
        simp [putCells, h8, show j < cur.size by omega]
      · rw [List.getElem?_take_eq_none qz8, AT6 (by simp [hsl]; omega)]
    · rw [Bx9 (fun n => AV.is (enc n))]
      have h9 : (srt l).map (fun n => AV.is (enc n)) = ((srt l).map enc).map AV.is := by simp
      rw [h9];exact denC_mk fun y hy => by obtain ⟨x, _, rfl⟩ := m1.1 hy; exact h1c x
    · intro e he; obtain ⟨x, _, rfl⟩ := m1.1 he; rfl
end ordered
end Go.AV
namespace Go.Proofs
open Go.Shelf
def Tryz.sortStrs_ren : Go.Shelf.Ren := ⟨fun | 190 => 303 | 125 => 335 | 258 => 334 | 128 => 357 | 129 => 228 | 302 => 348 | 303 => 349 | 304 => 350 | 305 => 351 | 306 => 352 | 307 => 353 | 308 => 354 | 309 => 355 | 310 => 356 | 333 => 368 | 329 => 369 | 330 => 370 | 334 => 371 | 335 => 372 | 336 => 192 | 344 => 376 | n => n, fun | 31 => 25 | 9 => 9 | 3 => 3 | 46 => 199 | 0 => 0 | 51 => 267 | 53 => 84 | 4 => 4 | 183 => 368 | 182 => 367 | 131 => 108 | 5 => 5 | 218 => 383 | 222 => 387 | 228 => 392 | 229 => 393 | n => n, fun | n => n⟩
theorem Tryz.sortStrs : Go.Proofs.Lays.n190 Tryz.prog Tryz.sortStrs_ren := by
  repeat' first | kernel_rfl | (intro w; kernel_rfl) | constructor
end Go.Proofs
namespace Go.PQ
open Go.Proofs
open Go Go.AV Go.M
attribute [local irreducible] OpW OpA OpS AWP K6 L8 K8 OpE K7 I7 L1 Le Ev G4 M7 Int.tmod Int.tdiv IntKind.wrap
theorem Ca9 (x y : A5) : (x.Key == y.Key && (x.Val == y.Val && (x.Gone == y.Gone && true))) = decide (x = y) := by
  cases x; cases y
  rw [AW7];simp
theorem Cq2 (v : Value) (l : List Str) (hl : l.length < 4611686018427387904) : L7 303 [AV.is v] [.arr v 9 1 (l.map fun s => [AV.str s])] (fun _ : Unit => True) (fun _ => [.arr v 9 1 ((BE6 l).map fun s => [AV.str s])]) (fun _ => AV.tup []) :=
  row_own1 Go.Proofs.encStr (fun _ => rfl) BE6 Bm5
    (fun blk off cap zs w h1 h2 h3 => Any.slices_Sort_string Tryz.sortStrs blk off cap zs w h1 h2 h3) (fun p cap w => Any.slices_Sort_string_none Tryz.sortStrs p cap w) v l hl
theorem BO2 {l : List Str} {i j : Nat} {s : Str} (h : l[i]? = some s) (hj : j = i * 1) : ((l.map fun s => [AV.str s]).flatten)[j]? = some (AV.str s) := by
  rw [hj, Nat.mul_one];have e : (l.map fun s => [AV.str s]).flatten = l.map AV.str := by
    clear h;induction l with
    | nil => rfl
    | cons x l ih => simp [ih]
  rw [e, Z5, h]; rfl
theorem CT3 (v : Value) (l : List Str) (hl : l.length ≤ 4194304) : L7 304 [AV.is v] [.arr v 9 1 (l.map fun s => [AV.str s])]
   (fun _ : Value => True) (fun v => [.arr v 9 1 ((cmpL l).map fun s => [AV.str s])]) (fun v => AV.is v) := by
 refine C6 Tryz.func304 rfl Tryz.ntmps304 rfl ?_;refine zq48 ?_;refine zK ?_ ?_
 ·intro h8 k8;have hall : cmpL l = l := by (unfold cmpL; rw [BR7 (N2 _) (fun i h1 h2 => by omega), AM2])
  refine R6 ?_;exact I5 [0] v (trivial) rfl qz83 (N4 rfl (A8 rfl V5))
 intro h8 k8;refine R7 ?_;refine F8 [(0, _)] _ (fun (k : Nat) => (1 ≤ k ∧ k ≤ l.length) ∧ ∀ i, 1 ≤ i → i < k → l[i]? ≠ l[i - 1]?) (fun k => []) (fun k => [(3, AV.int k)]) (fun k => l.length - k) (1) ?_ (H0 A4) ?_
 ·exact ⟨⟨N2 _, by omega⟩, fun i h1 h2 => by omega⟩
 intro k hinv;refine zK ?_ ?_
 ·intro h13 k13;have hlt : k < l.length := by omega
  obtain ⟨x, hx⟩ := B3 hlt;obtain ⟨y, hy⟩ := B3 (show k - 1 < l.length by omega);refine R7 ?_;refine B7 rfl rfl (I3 0 rfl F0 K1 zA rfl zA qz3 qz3) ?_;refine B7 rfl rfl (AL8 0 rfl zA rfl AB8 (BO2 hx qz8)) ?_;refine R3 ?_;refine B7 rfl rfl (I3 0 rfl F0 K1 zA rfl zA qz3 qz3) ?_;refine B7 rfl rfl (AL8 0 rfl zA rfl AB8 (BO2 hy qz8)) ?_;refine zC ?_ ?_
  ·intro h25;have hxy : l[k]? = l[k - 1]? := by (rw [hx, hy]; have h9 := h25; simp at h9; rw [h9])
   have hinv0 := hinv;refine R4 ?_;refine A1 rfl (CF9 0 rfl F0 K1 zA rfl zA qz3 qz3) ?_;refine R8 ?_;refine V8 [(0, _), (4, _), (10, _), (11, _), (12, _), (13, _), (16, _), (17, _), (18, _), (19, _), (20, _), (21, _), (22, _), (23, _), (24, _), (25, _), (26, _), (27, _), (28, _)] _ (fun (i : Nat) (j : Nat) (m : List Str) => 1 ≤ j ∧ k + j ≤ l.length ∧ i + 1 ≤ k + j ∧ m.length = l.length ∧ m.take i = AS4 l (k + j) ∧ m.drop (k + j - 1) = l.drop (k + j - 1)) (fun i j m => [.arr v 9 1 (m.map fun s => [AV.str s])]) (fun i j m => [(3, AV.int i), (5, AV.int j)]) (fun i j m => l.length - (k + j)) (k) (1) (l) ?_ (K5 B8 A4) ?_
   ·exact ⟨N2 _, by omega, by omega, rfl, by rw [CY0 qz8 hxy, BR7 qz8 hinv0.2], rfl⟩
   intro i j m hinv;refine R5 ?_;refine A1 rfl (w_tlen 0 rfl F0 zA rfl) ?_;refine zK ?_ ?_
   ·intro h32 k32;have hlt1 : k + j < l.length := by omega
    obtain ⟨x1, hx1⟩ := B3 hlt1;obtain ⟨y1, hy1⟩ := B3 (show k + j - 1 < l.length by omega);have hmx := Bm1 hinv.2.2.2.2.2 hx1 qz8;have hmy := Bm1 hinv.2.2.2.2.2 hy1 qz8;refine R7 ?_;refine B7 rfl rfl (Cm5 0 rfl F0 K1 zA rfl zA qz8 AF3) ?_;refine B7 rfl rfl (AL8 0 rfl zA rfl AB8 (BO2 hmx (by rw [show ((k : Int).toNat + (j : Int).toNat) = k + j by omega]))) ?_;refine R3 ?_;refine B7 rfl rfl (Cm5 0 rfl F0 K1 zA rfl zA qz8 AF3) ?_;refine B7 rfl rfl (AL8 0 rfl zA rfl AB8 (BO2 hmy (by rw [show ((k : Int).toNat + ((j : Int) - 1).toNat) = k + j - 1 by omega]))) ?_;refine zC ?_ ?_
    ·intro h44;refine R6 ?_;refine A1 rfl (Cm5 0 rfl F0 K1 zA rfl zA qz8 AF3) ?_;refine A1 rfl (AL8 0 rfl zA rfl AB8 (BO2 hmx (by rw [show ((k : Int).toNat + (j : Int).toNat) = k + j by omega]))) ?_;refine A1 rfl (I3 0 rfl F0 K1 zA rfl zA qz8 AF3) ?_;refine AB5 0 rfl rfl rfl zA zA (n6 _) rfl K1 rfl Ci8 ?_;refine R11 ?_;refine P6 i j m (i + 1) (j + 1) (m.set i x1) ?_ ?_ (K5 (by first | exact E5 (fun z => [Own.arr v 9 1 z]) (AJ6).symm | rfl) A4)
     ·exact cmp_keep hinv qz8 hx1 hy1 (by simpa using h44)
     omega
    intro h44;refine R6 ?_;refine P6 i j m (i) (j + 1) (m) ?_ ?_ (K5 (by first | exact E5 (fun z => [Own.arr v 9 1 z]) (AJ6).symm | rfl) A4)
    ·exact cmp_skip hinv qz8 hx1 hy1 (by simpa using h44)
    omega
   intro h32 k32;have hge : k + j = l.length := by omega
   refine R5 ?_;refine A1 rfl (CF9 0 rfl F0 K1 zA rfl zA qz3 qz3) ?_;refine DR7 0 rfl rfl rfl F0 Tryz.zeroValue9 rfl rfl D4 zA rfl Ci8 ?_;refine R5 ?_;refine sq_ahi 0 rfl rfl rfl rfl F0 K1 zA rfl zA qz8 (by simp only [A7, G3, H4, Ah1]; omega) ?_;intro v59_1;refine R3 ?_;exact I5 [0] v59_1 (trivial) rfl qz83 (N4 rfl (A8 rfl V5))
  intro h25;refine R6 ?_;refine G5 k (k + 1) ?_ ?_ (H0 A4)
  ·exact ⟨⟨by omega, by omega⟩, fun i h1 h2 => if e : i = k then (by subst e; rw [hx, hy]; intro e; injection e with e; subst e; simp at h25) else hinv.2 i h1 qz8⟩
  omega
 intro h13 k13;have hall : cmpL l = l := by (unfold cmpL; rw [BR7 (N2 _) (fun i h1 h2 => hinv.2 i h1 qz8), AM2])
 refine R7 ?_;exact I5 [0] v (trivial) rfl qz83 (N4 rfl (A8 rfl V5))
end Go.PQ