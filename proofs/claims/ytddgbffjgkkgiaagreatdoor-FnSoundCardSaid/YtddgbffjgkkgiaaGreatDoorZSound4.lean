/- Texts of the claim, part 4. -/
import Derived.Test.YtddgbffjgkkgiaaGreatDoorProg
import GoSem.ClaimJoined
import GoSem.ClaimMapViews
import Derived.JoinedTies
import Derived.KernelRfl
import Derived.RowKit
import Derived.Sort.OwnSortedInts
import Derived.Sort.EncStr
import Derived.Shelf.GgSortFunc.RowK
import Derived.Shelf.Sort.Plain
import Derived.Shelf.Slices.In.SortNone
import Derived.Test.YtddgbffjgkkgiaaGreatDoorZSound3
set_option linter.defProp false
set_option linter.unusedVariables false
set_option linter.unusedSimpArgs false
set_option maxRecDepth 100000
set_option maxHeartbeats 4000000
namespace Go.PQ
open Go.Proofs
open Go Go.AV Go.M
attribute [local irreducible] OpW OpA OpS AWP J6 L6 K4 L0 Le Ev G4
theorem AR8 {p:Prop}(h:p:=by
 refine B0 Al1 rfl Al2 rfl ?_;refine Y0 (t:=0) rfl fun hl=> ?_;try simp only[A8]at hl
 refine R12 ?_;refine E8 [(0,_),(1,_),(7,_)] _ (fun (i:Nat)=>i≤l.length∧idxFrom f l 0=idxFrom f (l.drop i) i) (fun i=>[]) (fun i=>[(8,AV.int i)]) (fun i=>l.length-i) (0) ?_ (G2 A6) ?_
 ·exact zq4
 intro i hinv;refine zK ?_ ?_
 ·intro h9 k9;have hlt:i<l.length:=by omega
  obtain⟨x,hx⟩:=B2 hlt;refine R13 ?_;refine A1 rfl (C2 rfl Al3 Al4 zA zA hx qz1) ?_;refine R1 ?_;refine A1 rfl (Cn6 rfl zA x (hp x (C3 hx)) zA) ?_;refine zC ?_ ?_
  ·intro h16;refine R6 ?_;exact D1 rfl (A5 rfl qz75)
  intro h16;refine R5 ?_;refine F1 i (i+1) ?_ ?_ (G2 A6)
  ·exact⟨by omega,by rw[hinv.2,J8 hx,idxFrom,h16];simp⟩
  omega
 intro h9 k9;have hge:l.length≤i:=by omega
 refine R6 ?_;exact D1 rfl (A5 rfl qz75)):p:=h
namespace tw1n0
def Al1 :=@Tryz.func134
def Al2 :=@Tryz.ntmps134
def Al3 :=@Tryz.underlying24
def Al4 :=@Tryz.sizeOf102
end tw1n0
open tw1n0 in
theorem Bm4 (l:List S6)(pre:S6→Prop)(f:S6→Bool)(hp:∀x∈l,pre x):D6 134 [AV.list 1 (l.map S6.cs),AV.fun1 Tryz.prog pre (fun a=>AV.agg a.cs) (fun a=>AV.bool (f a))] (AV.int (idxFrom f l 0)):=AR8
theorem AV1 {p:Prop}(h:p:=by
  refine B0 Aq6 rfl Aq7 rfl ?_;refine R8 ?_;refine zF rfl Aq8 (Aq9 l pre f Au5) F3 ?_;refine R4 ?_;exact D1 rfl (A5 rfl (by exact F2 AV.bool (BG8 f l 0 (Int.le_refl 0))))):p:=h
namespace tw2n0
def Aq6 :=@Tryz.func61
def Aq7 :=@Tryz.ntmps61
def Aq8 :=@Tryz.call134
def Aq9 :=@Bm4
end tw2n0
open tw2n0 in
theorem BZ0 (l:List S6)(pre:S6→Prop)(f:S6→Bool)(hp:∀x∈l,pre x):D6 61 [AV.list 1 (l.map S6.cs),AV.fun1 Tryz.prog pre (fun a=>AV.agg a.cs) (fun a=>AV.bool (f a))] (AV.bool (l.any f)):=AV1
namespace tw1n1
def Al1 :=@Tryz.func332
def Al2 :=@Tryz.ntmps332
def Al3 :=@Tryz.underlying123
def Al4 :=@Tryz.sizeOf248
end tw1n1
open tw1n1 in
theorem Bm5 (l:List B1)(pre:B1→Prop)(f:B1→Bool)(hp:∀x∈l,pre x):D6 332 [AV.list 3 (l.map B1.cs),AV.fun1 Tryz.prog pre (fun a=>AV.agg a.cs) (fun a=>AV.bool (f a))] (AV.int (idxFrom f l 0)):=AR8
namespace tw2n1
def Aq6 :=@Tryz.func288
def Aq7 :=@Tryz.ntmps288
def Aq8 :=@Tryz.call332
def Aq9 :=@Bm5
end tw2n1
open tw2n1 in
theorem Ab9 (l:List B1)(pre:B1→Prop)(f:B1→Bool)(hp:∀x∈l,pre x):D6 288 [AV.list 3 (l.map B1.cs),AV.fun1 Tryz.prog pre (fun a=>AV.agg a.cs) (fun a=>AV.bool (f a))] (AV.bool (l.any f)):=AV1
namespace tw1n2
def Al1 :=@Tryz.func197
def Al2 :=@Tryz.ntmps197
def Al3 :=@Tryz.underlying68
def Al4 :=@Tryz.sizeOf179
end tw1n2
open tw1n2 in
theorem Bm6 (l:List F4)(pre:F4→Prop)(f:F4→Bool)(hp:∀x∈l,pre x):D6 197 [AV.list 8 (l.map F4.cs),AV.fun1 Tryz.prog pre (fun a=>AV.agg a.cs) (fun a=>AV.bool (f a))] (AV.int (idxFrom f l 0)):=AR8
namespace tw2n2
def Aq6 :=@Tryz.func128
def Aq7 :=@Tryz.ntmps128
def Aq8 :=@Tryz.call197
def Aq9 :=@Bm6
end tw2n2
open tw2n2 in
theorem BZ1 (l:List F4)(pre:F4→Prop)(f:F4→Bool)(hp:∀x∈l,pre x):D6 128 [AV.list 8 (l.map F4.cs),AV.fun1 Tryz.prog pre (fun a=>AV.agg a.cs) (fun a=>AV.bool (f a))] (AV.bool (l.any f)):=AV1
namespace tw1n3
def Al1 :=@Tryz.func166
def Al2 :=@Tryz.ntmps166
def Al3 :=@Tryz.underlying36
def Al4 :=@Tryz.sizeOf70
end tw1n3
open tw1n3 in
theorem Bb0 (l:List D8)(pre:D8→Prop)(f:D8→Bool)(hp:∀x∈l,pre x):D6 166 [AV.list 3 (l.map D8.cs),AV.fun1 Tryz.prog pre (fun a=>AV.agg a.cs) (fun a=>AV.bool (f a))] (AV.int (idxFrom f l 0)):=AR8
namespace tw2n3
def Aq6 :=@Tryz.func99
def Aq7 :=@Tryz.ntmps99
def Aq8 :=@Tryz.call166
def Aq9 :=@Bb0
end tw2n3
open tw2n3 in
theorem BR9 (l:List D8)(pre:D8→Prop)(f:D8→Bool)(hp:∀x∈l,pre x):D6 99 [AV.list 3 (l.map D8.cs),AV.fun1 Tryz.prog pre (fun a=>AV.agg a.cs) (fun a=>AV.bool (f a))] (AV.bool (l.any f)):=AV1
namespace tw1n4
def Al1 :=@Tryz.func199
def Al2 :=@Tryz.ntmps199
def Al3 :=@Tryz.underlying105
def Al4 :=@Tryz.sizeOf175
end tw1n4
open tw1n4 in
theorem Bp9 (l:List G9)(pre:G9→Prop)(f:G9→Bool)(hp:∀x∈l,pre x):D6 199 [AV.list 3 (l.map G9.cs),AV.fun1 Tryz.prog pre (fun a=>AV.agg a.cs) (fun a=>AV.bool (f a))] (AV.int (idxFrom f l 0)):=AR8
namespace tw2n4
def Aq6 :=@Tryz.func131
def Aq7 :=@Tryz.ntmps131
def Aq8 :=@Tryz.call199
def Aq9 :=@Bp9
end tw2n4
open tw2n4 in
theorem Bb1 (l:List G9)(pre:G9→Prop)(f:G9→Bool)(hp:∀x∈l,pre x):D6 131 [AV.list 3 (l.map G9.cs),AV.fun1 Tryz.prog pre (fun a=>AV.agg a.cs) (fun a=>AV.bool (f a))] (AV.bool (l.any f)):=AV1
namespace tw1n5
def Al1 :=@Tryz.func334
def Al2 :=@Tryz.ntmps334
def Al3 :=@Tryz.underlying61
def Al4 :=@Tryz.sizeOf144
end tw1n5
open tw1n5 in
theorem Bq0 (l:List E0)(pre:E0→Prop)(f:E0→Bool)(hp:∀x∈l,pre x):D6 334 [AV.list 5 (l.map E0.cs),AV.fun1 Tryz.prog pre (fun a=>AV.agg a.cs) (fun a=>AV.bool (f a))] (AV.int (idxFrom f l 0)):=AR8
namespace tw2n5
def Aq6 :=@Tryz.func296
def Aq7 :=@Tryz.ntmps296
def Aq8 :=@Tryz.call334
def Aq9 :=@Bq0
end tw2n5
open tw2n5 in
theorem Aw5 (l:List E0)(pre:E0→Prop)(f:E0→Bool)(hp:∀x∈l,pre x):D6 296 [AV.list 5 (l.map E0.cs),AV.fun1 Tryz.prog pre (fun a=>AV.agg a.cs) (fun a=>AV.bool (f a))] (AV.bool (l.any f)):=AV1
namespace tw1n6
def Al1 :=@Tryz.func147
def Al2 :=@Tryz.ntmps147
def Al3 :=@Tryz.underlying62
def Al4 :=@Tryz.sizeOf118
end tw1n6
open tw1n6 in
theorem Bq1 (l:List H2)(pre:H2→Prop)(f:H2→Bool)(hp:∀x∈l,pre x):D6 147 [AV.list 3 (l.map H2.cs),AV.fun1 Tryz.prog pre (fun a=>AV.agg a.cs) (fun a=>AV.bool (f a))] (AV.int (idxFrom f l 0)):=AR8
namespace tw2n6
def Aq6 :=@Tryz.func73
def Aq7 :=@Tryz.ntmps73
def Aq8 :=@Tryz.call147
def Aq9 :=@Bq1
end tw2n6
open tw2n6 in
theorem Ad8 (l:List H2)(pre:H2→Prop)(f:H2→Bool)(hp:∀x∈l,pre x):D6 73 [AV.list 3 (l.map H2.cs),AV.fun1 Tryz.prog pre (fun a=>AV.agg a.cs) (fun a=>AV.bool (f a))] (AV.bool (l.any f)):=AV1
namespace tw1n7
def Al1 :=@Tryz.func235
def Al2 :=@Tryz.ntmps235
def Al3 :=@Tryz.underlying84
def Al4 :=@Tryz.sizeOf92
end tw1n7
open tw1n7 in
theorem CD7 (l:List TOp)(pre:TOp→Prop)(f:TOp→Bool)(hp:∀x∈l,pre x):D6 235 [AV.list 4 (l.map TOp.cs),AV.fun1 Tryz.prog pre (fun a=>AV.agg a.cs) (fun a=>AV.bool (f a))] (AV.int (idxFrom f l 0)):=AR8
namespace tw2n7
def Aq6 :=@Tryz.func173
def Aq7 :=@Tryz.ntmps173
def Aq8 :=@Tryz.call235
def Aq9 :=@CD7
end tw2n7
open tw2n7 in
theorem Bm7 (l:List TOp)(pre:TOp→Prop)(f:TOp→Bool)(hp:∀x∈l,pre x):D6 173 [AV.list 4 (l.map TOp.cs),AV.fun1 Tryz.prog pre (fun a=>AV.agg a.cs) (fun a=>AV.bool (f a))] (AV.bool (l.any f)):=AV1
namespace tw1n8
def Al1 :=@Tryz.func254
def Al2 :=@Tryz.ntmps254
def Al3 :=@Tryz.underlying53
def Al4 :=@Tryz.sizeOf58
end tw1n8
open tw1n8 in
theorem Bx4 (l:List H7)(pre:H7→Prop)(f:H7→Bool)(hp:∀x∈l,pre x):D6 254 [AV.list 3 (l.map H7.cs),AV.fun1 Tryz.prog pre (fun a=>AV.agg a.cs) (fun a=>AV.bool (f a))] (AV.int (idxFrom f l 0)):=AR8
namespace tw2n8
def Aq6 :=@Tryz.func201
def Aq7 :=@Tryz.ntmps201
def Aq8 :=@Tryz.call254
def Aq9 :=@Bx4
end tw2n8
open tw2n8 in
theorem Bi0 (l:List H7)(pre:H7→Prop)(f:H7→Bool)(hp:∀x∈l,pre x):D6 201 [AV.list 3 (l.map H7.cs),AV.fun1 Tryz.prog pre (fun a=>AV.agg a.cs) (fun a=>AV.bool (f a))] (AV.bool (l.any f)):=AV1
namespace tw1n9
def Al1 :=@Tryz.func135
def Al2 :=@Tryz.ntmps135
def Al3 :=@Tryz.underlying29
def Al4 :=@Tryz.sizeOf94
end tw1n9
open tw1n9 in
theorem BZ2 (l:List B5)(pre:B5→Prop)(f:B5→Bool)(hp:∀x∈l,pre x):D6 135 [AV.list 10 (l.map B5.cs),AV.fun1 Tryz.prog pre (fun a=>AV.agg a.cs) (fun a=>AV.bool (f a))] (AV.int (idxFrom f l 0)):=AR8
namespace tw2n9
def Aq6 :=@Tryz.func64
def Aq7 :=@Tryz.ntmps64
def Aq8 :=@Tryz.call135
def Aq9 :=@BZ2
end tw2n9
open tw2n9 in
theorem BN7 (l:List B5)(pre:B5→Prop)(f:B5→Bool)(hp:∀x∈l,pre x):D6 64 [AV.list 10 (l.map B5.cs),AV.fun1 Tryz.prog pre (fun a=>AV.agg a.cs) (fun a=>AV.bool (f a))] (AV.bool (l.any f)):=AV1
namespace tw1n10
def Al1 :=@Tryz.func140
def Al2 :=@Tryz.ntmps140
def Al3 :=@Tryz.underlying30
def Al4 :=@Tryz.sizeOf55
end tw1n10
open tw1n10 in
theorem BU3 (l:List C5)(pre:C5→Prop)(f:C5→Bool)(hp:∀x∈l,pre x):D6 140 [AV.list 6 (l.map C5.cs),AV.fun1 Tryz.prog pre (fun a=>AV.agg a.cs) (fun a=>AV.bool (f a))] (AV.int (idxFrom f l 0)):=AR8
namespace tw2n10
def Aq6 :=@Tryz.func67
def Aq7 :=@Tryz.ntmps67
def Aq8 :=@Tryz.call140
def Aq9 :=@BU3
end tw2n10
open tw2n10 in
theorem BK9 (l:List C5)(pre:C5→Prop)(f:C5→Bool)(hp:∀x∈l,pre x):D6 67 [AV.list 6 (l.map C5.cs),AV.fun1 Tryz.prog pre (fun a=>AV.agg a.cs) (fun a=>AV.bool (f a))] (AV.bool (l.any f)):=AV1
namespace tw1n11
def Al1 :=@Tryz.func203
def Al2 :=@Tryz.ntmps203
def Al3 :=@Tryz.underlying28
def Al4 :=@Tryz.sizeOf3
end tw1n11
open tw1n11 in
theorem Bx5 (l:List Int)(pre:Int→Prop)(f:Int→Bool)(hp:∀x∈l,pre x):D6 203 [ints l,AV.fun1 Tryz.prog pre (fun a=>AV.int a) (fun a=>AV.bool (f a))] (AV.int (idxFrom f l 0)):=AR8
namespace tw2n11
def Aq6 :=@Tryz.func137
def Aq7 :=@Tryz.ntmps137
def Aq8 :=@Tryz.call203
def Aq9 :=@Bx5
end tw2n11
open tw2n11 in
theorem Bi1 (l:List Int)(pre:Int→Prop)(f:Int→Bool)(hp:∀x∈l,pre x):D6 137 [ints l,AV.fun1 Tryz.prog pre (fun a=>AV.int a) (fun a=>AV.bool (f a))] (AV.bool (l.any f)):=AV1
namespace tw1n12
def Al1 :=@Tryz.func110
def Al2 :=@Tryz.ntmps110
def Al3 :=@Tryz.underlying42
def Al4 :=@Tryz.sizeOf25
end tw1n12
open tw1n12 in
theorem Bb2 (l:List (List Str))(pre:List Str→Prop)(f:List Str→Bool)(hp:∀x∈l,pre x):D6 110 [AV.list 1 (l.map fun x=>[strs x]),AV.fun1 Tryz.prog pre (fun a=>strs a) (fun a=>AV.bool (f a))] (AV.int (idxFrom f l 0)):=AR8
namespace tw2n12
def Aq6 :=@Tryz.func38
def Aq7 :=@Tryz.ntmps38
def Aq8 :=@Tryz.call110
def Aq9 :=@Bb2
end tw2n12
open tw2n12 in
theorem BS0 (l:List (List Str))(pre:List Str→Prop)(f:List Str→Bool)(hp:∀x∈l,pre x):D6 38 [AV.list 1 (l.map fun x=>[strs x]),AV.fun1 Tryz.prog pre (fun a=>strs a) (fun a=>AV.bool (f a))] (AV.bool (l.any f)):=AV1
theorem Bw5 {p:Prop}(h:p:=by
 refine B0 Cm3 rfl Cm4 rfl ?_;refine Y0 (t:=0) rfl fun hl=> ?_;try simp only[A8]at hl
 refine R19 ?_;refine K5 [(0,_),(1,_),(2,_),(6,_),(7,_),(8,_)] _ (fun (i:Nat) (j:Nat)=>i≤j∧j≤l.length∧bs (fun x=>f x v) l 0 l.length=bs (fun x=>f x v) l i j) (fun i j=>[]) (fun i j=>[(9,AV.int i),(10,AV.int j)]) (fun i j=>j-i) (0) ((l.map Cm5).length) ?_ (G2 A6) ?_
 ·exact⟨E4 _,by simp,by simp⟩
 intro i j hinv;refine zK ?_ ?_
 ·intro h17 k17;have hlt:i<j:=by omega
  obtain⟨x,hx⟩:=B2 (show (i+j) / 2<l.length by omega);refine R6 ?_;refine A1 rfl (Ba2 rfl zA zA qz7) ?_;refine A1 rfl (Ad1 rfl E3 Tryz.underlying220 zA) ?_;refine A1 rfl (w_shr rfl zA L1 E5 E5) ?_;refine A1 rfl (Ad1 rfl E3 W8 zA) ?_;refine R4 ?_;rw[half_eq qz7];refine R3 ?_;refine A1 rfl (C2 rfl CP1 CP2 zA zA hx qz1) ?_;refine R2 ?_;refine A1 rfl (CB8 rfl zA x v (hp x (C3 hx)) zA zA) ?_;refine zK ?_ ?_
  ·intro h31 k31;refine R5 ?_;refine Al8 ?_;refine H5 i j ((i+j) / 2+1) (j) ?_ ?_ (G2 A6)
   ·exact⟨by omega,by omega,by rw[hinv.2.2,bs_lo hlt hx k31]⟩
   omega
  intro h31 k31;refine R4 ?_;refine Al8 ?_;refine H5 i j (i) ((i+j) / 2) ?_ ?_ (G2 A6)
  ·exact⟨by omega,by omega,by rw[hinv.2.2,bs_hi hlt hx k31]⟩
  omega
 intro h17 k17;have hge:bs (fun x=>f x v) l 0 l.length=i:=by rw[hinv.2.2,Cp1 qz7]
 obtain⟨y,hy⟩:=Aw1 l i;refine R11 ?_;refine L5 rfl (fun hc=>C2 rfl CP1 CP2 (A7 rfl hc) (A7 rfl hc) (hy qz6) rfl) ?_;refine R2 ?_;refine L5 rfl (fun hc=>CB8 rfl (A7 rfl hc) y v (hp y (C3 (hy qz6))) (A7 rfl hc) (A7 rfl hc)) ?_;refine R6 ?_;exact Y1 rfl E5 (G0 (A5 rfl qz95) (G0 (A5 rfl qz95) u9))):p:=h
namespace tw3n0
def Cm3 :=@Tryz.func310
def Cm4 :=@Tryz.ntmps310
@[reducible] def Cm5 :=@B1.cs
def CP1 :=@Tryz.underlying123
def CP2 :=@Tryz.sizeOf248
end tw3n0
open tw3n0 in
theorem BZ3 (l:List B1)(v:Str)(pre:B1→Str→Prop)(hp:∀x∈l,pre x v)(f:B1→Str→Int)(hl2:l.length≤4611686018427387903):D6 310 [AV.list 3 (l.map B1.cs),AV.str v,AV.fun2 Tryz.prog pre (fun a=>AV.agg a.cs) (fun b=>AV.str b) (fun a b=>AV.int (f a b))] (AV.tup [AV.int (bs (fun x=>f x v) l 0 l.length),AV.bool (Ao3 (fun x=>f x v) l (bs (fun x=>f x v) l 0 l.length))]):=Bw5
namespace tw3n1
def Cm3 :=@Tryz.func275
def Cm4 :=@Tryz.ntmps275
@[reducible] def Cm5 :=@B8.cs
def CP1 :=@Tryz.underlying60
def CP2 :=@Tryz.sizeOf214
end tw3n1
open tw3n1 in
theorem Bb3 (l:List B8)(v:Str)(pre:B8→Str→Prop)(hp:∀x∈l,pre x v)(f:B8→Str→Int)(hl2:l.length≤4611686018427387903):D6 275 [AV.list 2 (l.map B8.cs),AV.str v,AV.fun2 Tryz.prog pre (fun a=>AV.agg a.cs) (fun b=>AV.str b) (fun a b=>AV.int (f a b))] (AV.tup [AV.int (bs (fun x=>f x v) l 0 l.length),AV.bool (Ao3 (fun x=>f x v) l (bs (fun x=>f x v) l 0 l.length))]):=Bw5
namespace tw3n2
def Cm3 :=@Tryz.func151
def Cm4 :=@Tryz.ntmps151
@[reducible] def Cm5 :=@E0.cs
def CP1 :=@Tryz.underlying61
def CP2 :=@Tryz.sizeOf144
end tw3n2
open tw3n2 in
theorem Bb4 (l:List E0)(v:Int)(pre:E0→Int→Prop)(hp:∀x∈l,pre x v)(f:E0→Int→Int)(hl2:l.length≤4611686018427387903):D6 151 [AV.list 5 (l.map E0.cs),AV.int v,AV.fun2 Tryz.prog pre (fun a=>AV.agg a.cs) (fun b=>AV.int b) (fun a b=>AV.int (f a b))] (AV.tup [AV.int (bs (fun x=>f x v) l 0 l.length),AV.bool (Ao3 (fun x=>f x v) l (bs (fun x=>f x v) l 0 l.length))]):=Bw5
namespace tw3n3
def Cm3 :=@Tryz.func208
def Cm4 :=@Tryz.ntmps208
@[reducible] def Cm5 :=@H2.cs
def CP1 :=@Tryz.underlying62
def CP2 :=@Tryz.sizeOf118
end tw3n3
open tw3n3 in
theorem Bb5 (l:List H2)(v:Int)(pre:H2→Int→Prop)(hp:∀x∈l,pre x v)(f:H2→Int→Int)(hl2:l.length≤4611686018427387903):D6 208 [AV.list 3 (l.map H2.cs),AV.int v,AV.fun2 Tryz.prog pre (fun a=>AV.agg a.cs) (fun b=>AV.int b) (fun a b=>AV.int (f a b))] (AV.tup [AV.int (bs (fun x=>f x v) l 0 l.length),AV.bool (Ao3 (fun x=>f x v) l (bs (fun x=>f x v) l 0 l.length))]):=Bw5
theorem CD8 (l:List Str)(v:Str):D6 389 [strs l,AV.str v] (AV.int (idxFrom (fun x=>v==x) l 0)):=by
 refine B0 Tryz.func389 rfl Tryz.ntmps389 rfl ?_;refine Y0 (t:=0) rfl fun hl=> ?_;try simp only[A8]at hl
 refine R12 ?_;refine E8 [(0,_),(1,_),(7,_)] _ (fun (i:Nat)=>i≤l.length∧idxFrom (fun x=>v==x) l 0=idxFrom (fun x=>v==x) (l.drop i) i) (fun i=>[]) (fun i=>[(8,AV.int i)]) (fun i=>l.length-i) (0) ?_ (G2 A6) ?_
 ·exact zq4
 intro i hinv;refine zK ?_ ?_
 ·intro h9 k9;have hlt:i<l.length:=by omega
  obtain⟨x,hx⟩:=B2 hlt;refine R13 ?_;refine A1 rfl (C2 rfl E2 I6 zA zA hx qz1) ?_;refine zC ?_ ?_
  ·intro h16;refine R6 ?_;exact D1 rfl (A5 rfl qz75)
  intro h16;refine R5 ?_;refine F1 i (i+1) ?_ ?_ (G2 A6)
  ·exact⟨by omega,by rw[hinv.2,J8 hx,idxFrom,h16];simp⟩
  omega
 intro h9 k9;have hge:l.length≤i:=by omega
 refine R6 ?_;exact D1 rfl (A5 rfl qz75)
theorem Bm8 (l:List Str)(v:Str):D6 363 [strs l,AV.str v] (AV.bool (l.any fun x=>v==x)):=by
  refine B0 Tryz.func363 rfl Tryz.ntmps363 rfl ?_;refine R8 ?_;refine zF rfl Tryz.call389 (CD8 _ _) F3 ?_;refine R4 ?_;exact D1 rfl (A5 rfl (by exact F2 AV.bool (BG8 (fun x=>v==x) l 0 (Int.le_refl 0))))
theorem At5 (a b:List H7):D6 19 [AV.list 3 (a.map H7.cs),AV.list 3 (b.map H7.cs)] (AV.bool (decide (a=b))):=by
 refine B0 Tryz.func19 rfl Tryz.ntmps19 rfl ?_;refine Y0 (t:=0) rfl fun hl=> ?_;try simp only[A8]at hl
 refine zC ?_ ?_
 ·intro h10;have k10:=Af4 h10;(try simp only[A8]at k10);have hab:a≠b:=by intro hc;subst hc;exact k10 rfl
  exact zq93
 intro h10;have k10:=AI9 h10;(try simp only[A8]at k10);have heq:a.length=b.length:=by omega
 refine R9 ?_;refine E8 [(0,_),(1,_),(12,_)] _ (fun (i:Nat)=>i≤a.length∧a.take i=b.take i) (fun i=>[]) (fun i=>[(13,AV.int i)]) (fun i=>a.length-i) (0) ?_ (G2 A6) ?_
 ·exact zq4
 intro i hinv;refine zK ?_ ?_
 ·intro h14 k14;have hlt:i<a.length:=by omega
  obtain⟨x,hx⟩:=B2 hlt;obtain⟨y,hy⟩:=B2 (show i<b.length by omega);refine R12 ?_;refine B3 rfl rfl (C2 rfl N1 W7 zA zA hx qz1) ?_;refine R3 ?_;refine B3 rfl rfl (C2 rfl N1 W7 zA zA hy qz1) ?_;refine R1 ?_;refine B3 rfl rfl (BI4 rfl Tryz.underlying58 E3 E3 zA zA (j5 E3 u3 rfl rfl (Aj1 P6) (j5 E3 u3 rfl rfl (Aj1 P6) (j5 E3 AF5 rfl rfl (Am1 U4) Aj0)))) ?_;refine zC ?_ ?_
  ·intro h24;have hab:a≠b:=by intro hc;subst hc;rw[hx]at hy;injection hy with hy;subst hy;simp at h24
   exact zq93
  intro h24;refine R5 ?_;refine F1 i (i+1) ?_ ?_ (G2 A6)
  ·exact⟨by omega,Ay3 hinv.2 hx (by rw[hy];congr 1;first|(simp_all;done)|(cases x;cases y;simp_all))⟩
  omega
 intro h14 k14;have hge:a.length≤i:=by omega
 have hab:a=b:=BN4 heq hinv.2 hge;refine R6 ?_;exact D1 rfl (A5 rfl BK5)
theorem BD8 {p:Prop}(h:p:=by
 refine C8 Bk2 rfl Bk3 rfl ?_;refine DB2 0 rfl ?_ ?_
 ·intro hnil;have hn:l=[]:=by cases l with|nil=>rfl|cons x l=>simp at hnil
  subst hn;refine R2 ?_;refine n1 BP3 BP4 rfl rfl rfl rfl L2 ?_;intro v2;refine R5 ?_;refine A1 rfl (w_eqnil rfl BI3 zA) ?_;refine zC ?_ ?_
  ·intro h4;refine R2 ?_;refine n1 BP3 BP4 rfl rfl rfl rfl L2 ?_;intro v2;refine R2 ?_;exact I9 [0] v2 (trivial) rfl B7 (O2 rfl (A5 rfl W5))
  intro h4
  cases h4
 skip
 refine R2 ?_;refine n1 BP3 BP4 rfl rfl rfl rfl L2 ?_;intro v2;refine R5 ?_;refine A1 rfl (w_eqnnl rfl BI3 zA) ?_;refine zC ?_ ?_
 ·intro h4
  cases h4
 intro h4;refine R3 ?_;refine S3 rfl rfl rfl rfl BI3 Bk4 ?_;intro v5;refine R1 ?_;refine I0 (by':=BP5) 0 rfl rfl rfl rfl BI3 Bk5 rfl rfl rfl rfl rfl rfl zA (AU6 zA nnl_list) rfl (by first|((try unfold BP5);omega)|(simp only[Cl5,X4,szR]at*;((try unfold BP5);omega))) ?_;intro v7_1;refine R3 ?_;exact I9 [0] v7_1 (trivial) rfl B7 (O2 rfl (A5 rfl W5))):p:=h
namespace tw4n0
def Bk2 :=@Tryz.func301
def Bk3 :=@Tryz.ntmps301
@[reducible] def BP3 :Nat:=248
@[reducible] def BP4 :Nat:=3
def BI3 :=@Tryz.underlying123
def Bk4 :=@Tryz.sizeOf248
@[reducible] def BP5 :Nat:=40
def Bk5 :=@Tryz.type248
end tw4n0
open tw4n0 in
theorem BW0 (l:List B1)(hl:l.length≤4194304):M0 301 [AV.list 3 (l.map B1.cs)] [] (fun _:Value=>True) (fun v=>[.arr v 248 3 (l.map B1.cs)]) (fun v=>AV.is v):=BD8
namespace tw4n1
def Bk2 :=@Tryz.func374
def Bk3 :=@Tryz.ntmps374
@[reducible] def BP3 :Nat:=209
@[reducible] def BP4 :Nat:=3
def BI3 :=@Tryz.underlying212
def Bk4 :=@Tryz.sizeOf209
@[reducible] def BP5 :Nat:=32
def Bk5 :=@Tryz.type209
end tw4n1
open tw4n1 in
theorem Cf6 (l:List U0)(hl:l.length≤4194304):M0 374 [AV.list 3 (l.map U0.cs)] [] (fun _:Value=>True) (fun v=>[.arr v 209 3 (l.map U0.cs)]) (fun v=>AV.is v):=BD8
namespace tw4n2
def Bk2 :=@Tryz.func373
def Bk3 :=@Tryz.ntmps373
@[reducible] def BP3 :Nat:=214
@[reducible] def BP4 :Nat:=2
def BI3 :=@Tryz.underlying60
def Bk4 :=@Tryz.sizeOf214
@[reducible] def BP5 :Nat:=40
def Bk5 :=@Tryz.type214
end tw4n2
open tw4n2 in
theorem CT1 (l:List B8)(hl:l.length≤4194304):M0 373 [AV.list 2 (l.map B8.cs)] [] (fun _:Value=>True) (fun v=>[.arr v 214 2 (l.map B8.cs)]) (fun v=>AV.is v):=BD8
namespace tw4n3
def Bk2 :=@Tryz.func346
def Bk3 :=@Tryz.ntmps346
@[reducible] def BP3 :Nat:=144
@[reducible] def BP4 :Nat:=5
def BI3 :=@Tryz.underlying61
def Bk4 :=@Tryz.sizeOf144
@[reducible] def BP5 :Nat:=72
def Bk5 :=@Tryz.type144
end tw4n3
open tw4n3 in
theorem CT2 (l:List E0)(hl:l.length≤4194304):M0 346 [AV.list 5 (l.map E0.cs)] [] (fun _:Value=>True) (fun v=>[.arr v 144 5 (l.map E0.cs)]) (fun v=>AV.is v):=BD8
namespace tw4n4
def Bk2 :=@Tryz.func340
def Bk3 :=@Tryz.ntmps340
@[reducible] def BP3 :Nat:=118
@[reducible] def BP4 :Nat:=3
def BI3 :=@Tryz.underlying62
def Bk4 :=@Tryz.sizeOf118
@[reducible] def BP5 :Nat:=24
def Bk5 :=@Tryz.type118
end tw4n4
open tw4n4 in
theorem Bb6 (l:List H2)(hl:l.length≤4194304):M0 340 [AV.list 3 (l.map H2.cs)] [] (fun _:Value=>True) (fun v=>[.arr v 118 3 (l.map H2.cs)]) (fun v=>AV.is v):=BD8
namespace tw4n5
def Bk2 :=@Tryz.func44
def Bk3 :=@Tryz.ntmps44
@[reducible] def BP3 :Nat:=92
@[reducible] def BP4 :Nat:=4
def BI3 :=@Tryz.underlying84
def Bk4 :=@Tryz.sizeOf92
@[reducible] def BP5 :Nat:=48
def Bk5 :=@Tryz.type92
end tw4n5
open tw4n5 in
theorem Cr7 (l:List TOp)(hl:l.length≤4194304):M0 44 [AV.list 4 (l.map TOp.cs)] [] (fun _:Value=>True) (fun v=>[.arr v 92 4 (l.map TOp.cs)]) (fun v=>AV.is v):=BD8
namespace tw4n6
def Bk2 :=@Tryz.func41
def Bk3 :=@Tryz.ntmps41
@[reducible] def BP3 :Nat:=9
@[reducible] def BP4 :Nat:=1
def BI3 :=@Tryz.underlying25
def Bk4 :=@Tryz.sizeOf9
@[reducible] def BP5 :Nat:=16
def Bk5 :=@Tryz.type9
end tw4n6
open tw4n6 in
theorem Ah4 (l:List Str)(hl:l.length≤4194304):M0 41 [strs l] [] (fun _:Value=>True) (fun v=>[.arr v 9 1 (l.map (fun x=>[AV.str x]))]) (fun v=>AV.is v):=BD8
theorem CT3 {p:Prop}(h:p:=by
 have hn:(l.map BP6).length=l.length:=A8 _;have h1:([BP6 x]:List (List AV)).length=1:=rfl;have e28:((l.map BP6).length:Int)+(([BP6 x]:List (List AV)).length:Int)=((l.length+1:Nat):Int):=by rw[hn,h1];rfl
 have e49:(i:Int)+(([BP6 x]:List (List AV)).length:Int)=((i+1:Nat):Int):=by rw[h1];rfl
 have e39:((l.length+1:Nat):Int)-(i:Int)=((l.length+1-i:Nat):Int):=by omega
 refine C8 tw5x1 rfl tw5x2 rfl ?_;refine Au8 0 rfl ?_ ?_
 ·intro hv hes;subst hv;have hl0:l=[]:=by cases l with|nil=>rfl|cons y l=>(simp at hes)
  subst hl0;have hi0:i=0:=by simpa using hi
  subst hi0;refine Au8 1 rfl (fun _ h=>by cases h) ?_;intro gv cv hvv _ _;subst hvv;refine zq10 ?_;refine R5 ?_;refine A1 rfl (BN0 0 rfl AL0 Al5 zA rfl zA qz1 qz1) ?_;refine R4 ?_;refine A1 rfl (Ay0 rfl AL0 zA) ?_;refine zC ?_ ?_
  ·intro h16;have k16:=J9 h16;(try simp only[A8]at k16);rw[h1]at k16;omega
  intro h16;have k16:=J4 h16;(try simp only[A8]at k16);refine zC ?_ ?_
  ·intro h22;have k22:=J9 h22;(try simp only[A8]at k22);refine R4 ?_;refine BN3 (by':=BX4) 0 rfl rfl rfl rfl AL0 BP7 rfl rfl rfl rfl rfl rfl zA (Ah0 1 rfl zA) X1 rfl (by simp only[A8,J7,T5];((try unfold BX4);omega)) ?_;intro v25;refine R3 ?_;exact I9 [0] v25 (trivial) rfl Ck7 (O2 rfl (A5 rfl BU7))
  intro h22;have k22:=J4 h22;(try simp only[A8]at k22);exact absurd rfl k22
 intro g cap hv hlc hcm;subst hv;refine Au8 1 rfl (fun _ h=>by cases h) ?_;intro gv cv hvv _ _;subst hvv;refine zq10 ?_;refine R5 ?_;refine A1 rfl (AZ2 rfl AL0 Al5 zA zA qz1 qz1) ?_;refine R4 ?_;refine A1 rfl (Ay0 rfl AL0 zA) ?_;refine zC ?_ ?_
 ·intro h16;have k16:=J9 h16;(try simp only[A8]at k16);rw[h1]at k16;omega
 intro h16;have k16:=J4 h16;(try simp only[A8]at k16);refine R4 ?_;refine A1 rfl (Ay0 rfl AL0 zA) ?_;refine zC ?_ ?_
 ·intro h22;have k22:=J9 h22;(try simp only[A8]at k22);refine R4 ?_;refine BN3 (by':=BX4) 0 rfl rfl rfl rfl AL0 BP7 rfl rfl rfl rfl rfl rfl zA (Ah0 1 rfl zA) X1 rfl (by simp only[A8,J7,T5];((try unfold BX4);omega)) ?_;intro v25;refine R3 ?_;exact I9 [0] v25 (trivial) rfl Ck7 (O2 rfl (A5 rfl BU7))
 intro h22;have k22:=J4 h22;(try simp only[A8]at k22);refine R7 ?_;rw[e28];refine R1 ?_;refine A1 rfl (w_vcap rfl AL0 zA) ?_;refine zK ?_ ?_
 ·intro h31 k31;refine R4 ?_;refine A1 rfl (CH5 rfl AL0 Al5 zA zA qz7 (by rw[hn]at hlc;omega)) ?_;refine R3 ?_;rw[e28];refine R2 ?_;rw[e39,o5];refine CH6 (by':=BX4) (j:=i) (m:=l.length+1-i) 0 rfl rfl rfl rfl AL0 W8 BP7 rfl rfl rfl rfl rfl rfl zA zA rfl (by rw[hn];exact hi) Cj9 Cj9 Cj9 Cj9 ?_;intro g2 cap2 hcap2;refine R6 ?_;refine A1 rfl (AZ2 rfl AL0 Al5 zA zA qz1 qz1) ?_;refine R1 ?_;rw[o5];refine BD0 (k:=i) 0 rfl rfl rfl rfl AL0 BP7 rfl zA (Ah0 2 rfl zA) rfl (by rw[h1];omega) (by rw[h1];omega) hcap2 X1 ?_;refine R2 ?_;refine J3 8 E3 E3 rfl ?_;refine R4 ?_;rw[e49];refine zq217 ?_;simp only[o5];refine BD0 (k:=i+1) 0 rfl rfl rfl rfl AL0 BP7 rfl zA (CR9 1 rfl zA) rfl (by rw[AB9,hn];omega) (by rw[AB9,hn];omega) hcap2 qz215 ?_;refine R7 ?_;exact I9 [0] (slv g2 (i+(l.length+1-i)) cap2) (trivial) rfl Ck7 (O2 rfl (A5 rfl BU7))
 intro h31 k31;refine R7 ?_;rw[e28];refine A1 rfl (CH5 rfl AL0 Al5 zA zA qz1 qz1) ?_;rw[o5];refine R10 ?_;rw[e49];refine A1 rfl (AZ2 rfl AL0 Al5 zA zA qz1 qz1) ?_;rw[o5];refine A1 rfl (By1 (tb:=4) 1 0 rfl tw5x9 E3 E3 E3 E3 AL0 Al5 zA zA rfl rfl rfl qz7 rfl) ?_;refine zC ?_ ?_
 ·intro h68;refine R1 ?_;refine J3 8 E3 E3 rfl ?_;refine R4 ?_;rw[e49];refine zq217 ?_;simp only[o5];refine Co6 (k:=i) (len:=(l.map BP6).length) 0 rfl rfl rfl rfl AL0 BP7 rfl (by rw[hn];exact A0 rfl) (by rw[hn];exact A0 rfl) rfl qz7 qz7 ?_;intro j77;refine R5 ?_;refine A1 rfl (AZ2 rfl AL0 Al5 zA zA qz1 qz1) ?_;refine R1 ?_;rw[o5];refine BD0 (k:=i) 0 rfl rfl rfl rfl AL0 BP7 rfl zA (Ah0 1 rfl zA) rfl (by rw[h1,hn];omega) (by rw[h1];omega) qz7 X1 ?_;refine R7 ?_;exact I9 [0] (slv g ((l.map BP6).length+1) cap) (trivial) rfl Ck7 (O2 rfl (A5 rfl BU7))
 intro h68
 cases h68):p:=h
namespace tw5n0
@[reducible] def BP6 :=@B1.cs
def tw5x1 :=@Tryz.func259
def tw5x2 :=@Tryz.ntmps259
def AL0 :=@Tryz.underlying123
def Al5 :=@Tryz.sizeOf248
@[reducible] def BX4 :Nat:=40
def BP7 :=@Tryz.type248
@[reducible] def tw5x7 :Nat:=248
@[reducible] def tw5x8 :Nat:=3
def tw5x9 :=@Tryz.func312
end tw5n0
open tw5n0 in
theorem CJ0 (v vv:Value)(l:List B1)(x:B1)(i:Nat)(hi:i≤l.length)(hl:l.length≤4194304):M0 259 [AV.is v,AV.int i,AV.is vv] [.arr v 248 3 (l.map B1.cs),.arr vv 248 3 [B1.cs x]] (fun _:Value=>True) (fun v=>[.arr v 248 3 ((l.take i++x::l.drop i).map B1.cs)]) (fun v=>AV.is v):=CT3
namespace tw5n1
@[reducible] def BP6 :=@E0.cs
def tw5x1 :=@Tryz.func308
def tw5x2 :=@Tryz.ntmps308
def AL0 :=@Tryz.underlying61
def Al5 :=@Tryz.sizeOf144
@[reducible] def BX4 :Nat:=72
def BP7 :=@Tryz.type144
@[reducible] def tw5x7 :Nat:=144
@[reducible] def tw5x8 :Nat:=5
def tw5x9 :=@Tryz.func347
end tw5n1
open tw5n1 in
theorem CT4 (v vv:Value)(l:List E0)(x:E0)(i:Nat)(hi:i≤l.length)(hl:l.length≤4194304):M0 308 [AV.is v,AV.int i,AV.is vv] [.arr v 144 5 (l.map E0.cs),.arr vv 144 5 [E0.cs x]] (fun _:Value=>True) (fun v=>[.arr v 144 5 ((l.take i++x::l.drop i).map E0.cs)]) (fun v=>AV.is v):=CT3
namespace tw5n2
@[reducible] def BP6 :=@H2.cs
def tw5x1 :=@Tryz.func344
def tw5x2 :=@Tryz.ntmps344
def AL0 :=@Tryz.underlying62
def Al5 :=@Tryz.sizeOf118
@[reducible] def BX4 :Nat:=24
def BP7 :=@Tryz.type118
@[reducible] def tw5x7 :Nat:=118
@[reducible] def tw5x8 :Nat:=3
def tw5x9 :=@Tryz.func376
end tw5n2
open tw5n2 in
theorem Ap5 (v vv:Value)(l:List H2)(x:H2)(i:Nat)(hi:i≤l.length)(hl:l.length≤4194304):M0 344 [AV.is v,AV.int i,AV.is vv] [.arr v 118 3 (l.map H2.cs),.arr vv 118 3 [H2.cs x]] (fun _:Value=>True) (fun v=>[.arr v 118 3 ((l.take i++x::l.drop i).map H2.cs)]) (fun v=>AV.is v):=CT3
theorem Bb7 (v:Value)(l:List E0)(i:Nat)(hi:i<l.length)(hl:l.length≤4194304):M0 343 [AV.is v,AV.int i,AV.int ((i:Int)+1)] [.arr v 144 5 (l.map E0.cs)] (fun _:Value=>True) (fun v=>[.arr v 144 5 ((l.eraseIdx i).map E0.cs)]) (fun v=>AV.is v):=by
 have hn:(l.map E0.cs).length=l.length:=A8 _;refine C8 Tryz.func343 rfl Tryz.ntmps343 rfl ?_;refine Au8 0 rfl ?_ ?_
 ·intro hv hes;subst hv;have h0:l.length=0:=(by rw[←hn,hes];rfl);omega
 intro g cap hv hlc hcm;subst hv;refine zq10 ?_;refine R7 ?_;refine A1 rfl (Ay0 rfl H1 zA) ?_;refine A1 rfl (w_v3 rfl H1 O0 zA zA zA zA qz7 qz7 qz7 qz7) ?_;refine zC ?_ ?_
 ·intro h16;have k16:=J9 h16;(try simp only[A8]at k16);omega
 intro h16;have k16:=J4 h16;(try simp only[A8]at k16);refine R4 ?_;refine A1 rfl (Ay0 rfl H1 zA) ?_;refine R3 ?_;refine J3 6 E3 E3 rfl ?_;refine R2 ?_;refine B3 rfl rfl (CH5 rfl H1 O0 zA zA qz7 qz7) ?_;refine R2 ?_;refine B3 rfl rfl (AZ2 rfl H1 O0 zA zA qz7 qz7) ?_;refine R1 ?_;rw[show ((i:Int)+1).toNat=i+1 by omega,o5];refine DX9 (k:=i) (j:=i+1) 0 rfl rfl rfl rfl H1 Tryz.type144 rfl zA zA rfl qz7 qz7 ?_;refine R6 ?_;refine A1 rfl (Ay0 rfl H1 zA) ?_;refine R1 ?_;refine A1 rfl (w_vlohi rfl H1 O0 zA zA zA qz7 qz7 qz7) ?_;simp only[o5];refine DY0 0 rfl rfl rfl H1 Tryz.zeroValue144 rfl rfl rfl zA rfl qz7 qz7 qz7 ?_;refine R7 ?_;exact I9 [0] (slv g (i+((l.map E0.cs).length-(i+1))) cap) (trivial) rfl (by exact F2 (fun z=>[Own.arr _ 144 5 z]) (by simp[List.eraseIdx_eq_take_drop_succ,List.map_take,List.map_drop])) (O2 rfl (A5 rfl W5))
end Go.PQ
namespace Go.PQ
open Go.Proofs
open Go Go.AV Go.M
attribute [local irreducible] OpW OpA OpS AWP J6 L6 K4 L0 Le Ev G4
theorem Bb8 {p:Prop}(h:p:=by
  refine B0 CP3 rfl CP4 rfl ?_;refine R7 ?_;refine zF rfl CP5 (CP6 _ _ _) AR5 ?_;refine R3 ?_;exact D1 rfl (A5 rfl W5)):p:=h
namespace tw6n0
def CP3 :=@Tryz.func230
def CP4 :=@Tryz.ntmps230
def CP5 :=@Tryz.call29
def CP6 :=@Z0
end tw6n0
open tw6n0 in
theorem Aj5 (t:Int):D6 230 [AV.int t] (AV.bool (Aa2 t)):=Bb8
theorem BL0 (s:Str)(g:Bool)(hs:s.length≤4611686018427387904):D6 200 [AV.str s,AV.bool g] (AV.bool (AL7 s g)):=by
  refine B0 Tryz.func200 rfl Tryz.ntmps200 rfl ?_;refine R7 ?_;refine zF rfl Tryz.call236 (Bp8 _ qz7) (A2 (A0 rfl) A9) ?_;refine R4 ?_;refine AF2 rfl rfl (Y9 rfl rfl rfl) (fun hc=>Cn4 rfl (A7 rfl hc) (O9 (l:=[]) rfl)) ?_;refine R6 ?_;exact zq16
theorem BN8 (s:Str)(hs:s.length≤4611686018427387904):D6 188 [AV.str s] (AV.bool (AU1 s)):=by
  refine B0 Tryz.func188 rfl Tryz.ntmps188 rfl ?_;refine R11 ?_;refine L5 rfl (fun hc=>zG rfl Tryz.call187 (Bp7 _ _ qz7 E5) (A2 (A7 rfl hc) (A2 (O9 (l:=[46,45,44,95]) rfl) A9))) ?_;exact zq114
theorem Bq2 (k s:Str)(g:Bool)(hk:k.length≤4611686018427387904)(hs:s.length≤4611686018427387904):D6 357 [AV.str k,AV.str s,AV.bool g] (AV.bool (Aq3 k s g)):=by
  refine B0 Tryz.func357 rfl Tryz.ntmps357 rfl ?_;refine R7 ?_;refine zF rfl Tryz.call117 (AZ6 _ qz7) (A2 (A0 rfl) A9) ?_;refine R2 ?_;refine L5 rfl (fun hc=>zG rfl Tryz.call188 (BN8 _ qz7) (A2 (A7 rfl hc) A9)) ?_;refine R6 ?_;refine AF2 rfl rfl (CB4 rfl rfl rfl) (fun hc=>Al9 rfl (A7 rfl hc) (O9 (l:=[]) rfl)) ?_;refine R5 ?_;exact zq16
theorem Bk9 (t:Int):D6 219 [AV.int t] (AV.bool false):=by
  refine B0 Tryz.func219 rfl Tryz.ntmps219 rfl ?_;refine R12 ?_;exact D1 rfl (A5 rfl (by exact F2 AV.bool X1))
theorem Bl0 (t:Str):D6 321 [AV.str t] (AV.bool false):=by
  refine B0 Tryz.func321 rfl Tryz.ntmps321 rfl ?_;refine R12 ?_;exact D1 rfl (A5 rfl (by exact F2 AV.bool X1))
theorem By5 (x y:Int):D6 153 [AV.int x,AV.int y] (AV.int (AR2 x y)):=by
 refine B0 Tryz.func153 rfl Tryz.ntmps153 rfl ?_;refine R7 ?_;refine zF rfl Tryz.call219 (Bk9 _) G6 ?_;refine R5 ?_;refine zF rfl Tryz.call219 (Bk9 _) G6 ?_;refine zC ?_ ?_
 ·intro h11
  cases h11
 intro h11;refine zC ?_ ?_
 ·intro h13
  cases h13
 intro h13;refine zK ?_ ?_
 ·intro h16 k16;refine R5 ?_;exact D1 rfl (A5 rfl qz174)
 intro h16 k16;refine zK ?_ ?_
 ·intro h19 k19;refine R5 ?_;exact D1 rfl (A5 rfl qz174)
 intro h19 k19;refine R6 ?_;exact D1 rfl (A5 rfl qz174)
theorem By6 (x y:Str):D6 277 [AV.str x,AV.str y] (AV.int (BJ8 x y)):=by
 refine B0 Tryz.func277 rfl Tryz.ntmps277 rfl ?_;refine R7 ?_;refine zF rfl Tryz.call321 (Bl0 _) G6 ?_;refine R5 ?_;refine zF rfl Tryz.call321 (Bl0 _) G6 ?_;refine zC ?_ ?_
 ·intro h11
  cases h11
 intro h11;refine zC ?_ ?_
 ·intro h13
  cases h13
 intro h13;refine R6 ?_;refine A1 rfl (w_slss rfl zA zA) ?_;refine zC ?_ ?_
 ·intro h16;refine R5 ?_;exact D1 rfl (A5 rfl qz154)
 intro h16;refine R6 ?_;refine A1 rfl (CG9 rfl zA zA) ?_;refine zC ?_ ?_
 ·intro h19;refine R5 ?_;exact D1 rfl (A5 rfl qz154)
 intro h19;refine R6 ?_;exact D1 rfl (A5 rfl qz154)
end Go.PQ
namespace Go.PQ
open Go.Proofs Go.Proofs.Tryz
open Go Go.AV Go.M
attribute [local irreducible] OpW OpA OpS AWP J6 L6 K4 L0 Le Ev G4
theorem CJ1 {l:List B1}(h:D2 B1.size l≤4194304):∀k∈O8 l,k.length≤4611686018427387904:=fun k hk=>by
  obtain⟨w,hw,rfl⟩:=n6.1 hk;have:=Af8 (f:=B1.size) hw;have h2:w.size=w.Key.length+w.Val.length:=rfl;omega
theorem Ad9 (l:List Str)(hs:∀k∈l,k.length≤4611686018427387904):D6 107 [strs l] (AV.bool (u4 l)):=by
 refine B0 func107 rfl ntmps107 rfl ?_;refine Y0 (t:=0) rfl fun hl=> ?_;try simp only[A8]at hl
 refine R12 ?_;refine E8 [(0,_),(5,_),(6,_)] _ (fun (i:Nat)=>i≤l.length∧u4 l=((l.drop i).all z7&&adj Op.bytesLess (l.drop (i-1)))) (fun i=>[]) (fun i=>[(7,AV.int i)]) (fun i=>l.length-i) (0) ?_ (G2 A6) ?_
 ·exact zq4
 intro i hinv;refine zK ?_ ?_
 ·intro h8 k8;have hlt:i<l.length:=by omega
  obtain⟨x,hx⟩:=B2 hlt;obtain⟨y,hy⟩:=B2 (show i-1<l.length by omega);have hsx:=hs x (C3 hx);refine R6 ?_;refine A1 rfl (C2 rfl E2 I6 zA zA hx qz1) ?_;refine R7 ?_;refine zF rfl call172 (Az2 _ qz7) (A2 (A0 rfl) A9) ?_;refine R9 ?_;refine AF2 rfl rfl (Y9 rfl rfl rfl) (fun hc=>C2 rfl E2 I6 (A7 rfl hc) (A7 rfl hc) hy qz6) ?_;refine R1 ?_;refine AF2 rfl rfl (Y9 rfl rfl rfl) (fun hc=>Cn5 rfl (A7 rfl hc) (A7 rfl hc)) ?_;refine zC ?_ ?_
  ·intro h27;have hfin:u4 l=false:=by rw[hinv.2];cases hg:z7 x with|false=>(rw[Av0 hx hg];simp)|true=>(have hb:0<i∧Op.bytesLess y x=false:=(by have:=n3 y x;simp_all;try grind);rw[Am9 hx hy hb.1 hb.2];simp)
   refine R5 ?_;exact D1 rfl (A5 rfl qz194)
  intro h27;have hg:z7 x=true∧(0<i→Op.bytesLess y x=true):=by have:=n3 y x;simp_all
  refine R5 ?_;refine F1 i (i+1) ?_ ?_ (G2 A6)
  ·exact zq75
  omega
 intro h8 k8;have hge:l.length≤i:=by omega
 refine R6 ?_;exact D1 rfl (A5 rfl qz194)
theorem Bb9 (l:List B1)(hs:D2 B1.size l≤4194304):D6 273 [AV.list 3 (l.map B1.cs)] (strs (O8 l)):=by
 have hl:l.length≤4194304:=L7 M7 hs;refine B0 func273 rfl ntmps273 rfl ?_;refine R2 ?_;refine zq70 ?_;refine R3 ?_;refine S3 rfl rfl rfl rfl E2 I6 ?_;intro v6;refine R10 ?_;refine K5 [(2,_),(7,_),(8,_)] _ (fun (i:Nat) (v:Value)=>i≤l.length) (fun i v=>[.arr v 9 1 ((l.take i).map fun w=>[AV.str w.Key])]) (fun i v=>[(3,AV.is v),(9,AV.int i)]) (fun i v=>l.length-i) (0) (v6) ?_ (I1 B7 A6) ?_
 ·exact E4 _
 intro i v hinv;refine zK ?_ ?_
 ·intro h10 k10;have hlt:i<l.length:=by omega
  obtain⟨x,hx⟩:=B2 hlt;refine zq62 ?_;intro b5;refine R7 ?_;refine zq145 ?_;intro v17_1;refine R6 ?_;refine H5 i v (i+1) (v17_1) ?_ ?_ (D5 1 (by exact F2 (fun z=>[Own.arr v17_1 9 1 z]) (AS5 (f:=fun w:B1=>[AV.str w.Key]) hx)) A6)
  ·omega
  omega
 intro h10 k10;have hge:l.length≤i:=by omega
 rw[S7 hge];refine R7 ?_;refine Au6 0 2 rfl rfl ?_;exact D1 rfl (A5 rfl (by exact F2 (AV.list 1) (by unfold O8;rw[List.map_map];rfl)))
theorem CD9 (w:B1)(h:w.size≤4194304):D6 289 [AV.agg w.cs] (AV.bool (!AL7 w.Val w.Gone)):=by
  unfold B1.size at h;refine B0 func289 rfl ntmps289 rfl ?_;refine R3 ?_;intro b1;refine R8 ?_;refine zF rfl call200 (BL0 _ _ qz7) (A2 (A0 rfl) (A2 (A0 rfl) A9)) ?_;exact zq114
theorem CJ2 (l:List B1)(hs:D2 B1.size l≤4194304):D6 231 [AV.list 3 (l.map B1.cs)] (AV.bool (AI3 l)):=by
  have hm:∀x∈l,x.size≤4194304:=fun x hx=>L7 (Af8 hx) hs;refine B0 func231 rfl ntmps231 rfl ?_;refine R11 ?_;refine L5 rfl (fun hc=>zG rfl call273 (Bb9 _ AI6) (A2 (A7 rfl hc) A9)) ?_;refine L5 rfl (fun hc=>zG rfl call107 (Ad9 _ (by first|assumption|exact CJ1 AI6)) (A2 (A7 rfl hc) A9)) ?_;refine R3 ?_;refine L5 rfl (fun hc=>zG rfl call288 (Ab9 _ _ _ Au5) (A2 (A7 rfl hc) (A2 (BC6 call289 (fun w h=>CD9 w h)) A9))) ?_;refine R5 ?_;exact D1 rfl (A5 rfl (by exact F2 AV.bool (by unfold AI3;simp only[A8])))
theorem Cf7 (l:List B1)(hs:D2 B1.size l≤1048576):D6 325 [AV.list 3 (l.map B1.cs)] (AV.bool (Ac1 l)):=by
 refine B0 func325 rfl ntmps325 rfl ?_;refine Y0 (t:=0) rfl fun hl=> ?_;try simp only[A8]at hl
 refine R12 ?_;refine E8 [(0,_),(5,_),(6,_)] _ (fun (i:Nat)=>i≤l.length∧(l.all AQ1&&adj X6 l)=((l.drop i).all AQ1&&adj X6 (l.drop (i-1)))) (fun i=>[]) (fun i=>[(7,AV.int i)]) (fun i=>l.length-i) (0) ?_ (G2 A6) ?_
 ·exact zq4
 intro i hinv;refine zK ?_ ?_
 ·intro h8 k8;have hlt:i<l.length:=by omega
  obtain⟨x,hx⟩:=B2 hlt;obtain⟨y,hy⟩:=B2 (show i-1<l.length by omega);have hsx:x.size≤1048576:=L7 (W4 hx) hs;unfold B1.size at hsx;refine R6 ?_;refine A1 rfl (C2 rfl G5 M8 zA zA hx qz1) ?_;refine R2 ?_;intro b4;refine R11 ?_;refine B3 rfl rfl (zG rfl call357 (Bq2 _ _ _ qz7 qz7) (A2 (A0 rfl) (A2 (A0 rfl) (A2 (A0 rfl) A9)))) ?_;refine R8 ?_;refine M1 rfl (Y9 rfl rfl rfl) (fun hc=>C2 rfl G5 M8 (A7 rfl hc) (A7 rfl hc) hy qz6) ?_;refine R4 ?_;refine M1 rfl (Y9 rfl rfl rfl) (fun hc=>Bn3 rfl (A7 rfl hc) (A7 rfl hc)) ?_;refine zC ?_ ?_
  ·intro h34;have hfin:Ac1 l=false:=by unfold Ac1;rw[hinv.2];cases hg:AQ1 x with|false=>(rw[Av0 hx hg];simp)|true=>(have hb:0<i∧X6 y x=false:=(by unfold AQ1 at hg;unfold X6;simp_all;try grind);rw[Am9 hx hy hb.1 hb.2];simp)
   refine R5 ?_;exact D1 rfl (A5 rfl qz170)
  intro h34;have hg:AQ1 x=true∧(0<i→X6 y x=true):=by unfold AQ1 X6;simp_all
  refine R5 ?_;refine F1 i (i+1) ?_ ?_ (T4 1 A6)
  ·exact zq75
  omega
 intro h8 k8;have hge:l.length≤i:=by omega
 refine R9 ?_;exact D1 rfl (A5 rfl qz170)
theorem CJ3 (w:B1)(k:Str):D6 311 [AV.agg w.cs,AV.str k] (AV.int (Bt7 k w)):=by
  refine B0 func311 rfl ntmps311 rfl ?_;refine R3 ?_;intro b2;refine R7 ?_;refine zF rfl call277 (By6 _ _) F3 ?_;exact zq158
theorem BD9 (l:List B1)(k:Str)(hs:l.length≤4611686018427387903):D6 258 [AV.list 3 (l.map B1.cs),AV.str k] (AV.tup [AV.int (Ae7 l k),AV.bool (BE6 l k)]):=by
  refine B0 func258 rfl ntmps258 rfl ?_;refine R9 ?_;refine zF rfl call310 (BZ3 _ _ _ Au5 _ qz7) (A2 (A0 rfl) (A2 (A0 rfl) (A2 (Ba4 call311 (fun w k (_:True)=>CJ3 w k)) A9))) ?_;refine R6 ?_;exact zq137
theorem AW0 {c:B8}{n:Nat}(h:c.size≤n):c.Key.length≤n∧c.Vers.length≤n∧D2 U0.size c.Vers≤n:=by
  unfold B8.size at h;have:c.Vers.length≤n:=L7 M7 (show D2 U0.size c.Vers≤n by omega);omega
namespace tw6n1
def CP3 :=@Tryz.func60
def CP4 :=@Tryz.ntmps60
def CP5 :=@Tryz.call29
def CP6 :=@Z0
end tw6n1
open tw6n1 in
theorem Ar6 (t:Int):D6 60 [AV.int t] (AV.bool (o0 t)):=Bb8
namespace tw6n2
def CP3 :=@Tryz.func323
def CP4 :=@Tryz.ntmps323
def CP5 :=@Tryz.call87
def CP6 :=@T7
end tw6n2
open tw6n2 in
theorem DC6 (t:Int):D6 323 [AV.int t] (AV.bool (within t 1 100000)):=Bb8
namespace tw6n3
def CP3 :=@Tryz.func86
def CP4 :=@Tryz.ntmps86
def CP5 :=@Tryz.call87
def CP6 :=@T7
end tw6n3
open tw6n3 in
theorem Ar7 (t:Int):D6 86 [AV.int t] (AV.bool (o0 t)):=Bb8
theorem DC7 (c:B8)(hs:c.size≤4194304):D6 294 [AV.agg c.cs] (AV.bool (Ai5 c)):=by
 have hcl:=AW0 hs;refine B0 Tryz.func294 rfl Tryz.ntmps294 rfl ?_;refine R3 ?_;intro b1;refine R11 ?_;refine E8 [(1,_),(6,_),(7,_)] _ (fun (i:Nat)=>i≤c.Vers.length∧(c.Vers.all AV4&&adj AP3 c.Vers)=((c.Vers.drop i).all AV4&&adj AP3 (c.Vers.drop (i-1)))) (fun i=>[]) (fun i=>[(8,AV.int i)]) (fun i=>c.Vers.length-i) (0) ?_ (G2 A6) ?_
 ·exact zq4
 intro i hinv;refine zK ?_ ?_
 ·intro h9 k9;have hlt:i<c.Vers.length:=by omega
  obtain⟨x,hx⟩:=B2 hlt;obtain⟨y,hy⟩:=B2 (show i-1<c.Vers.length by omega);have hsx:x.size≤4194304:=L7 (W4 hx) hcl.2.2;unfold U0.size at hsx;refine R6 ?_;refine A1 rfl (C2 rfl X7 z5 zA zA hx qz1) ?_;refine R2 ?_;intro b4;refine R7 ?_;refine B3 rfl rfl (zG rfl Tryz.call230 (Aj5 _) G6) ?_;refine R6 ?_;refine M1 rfl (Y6 rfl rfl rfl) (fun hc=>zG rfl Tryz.call200 (BL0 _ _ qz7) (A2 (A7 rfl hc) (A2 (A7 rfl hc) A9))) ?_;refine R12 ?_;refine M1 rfl (Y9 rfl rfl rfl) (fun hc=>C2 rfl X7 z5 (A7 rfl hc) (A7 rfl hc) hy qz6) ?_;refine zC ?_ ?_
  ·intro h40;have hfin:Ai5 c=false:=by unfold Ai5;rw[hinv.2];cases hg:AV4 x with|false=>(rw[Av0 hx hg];simp)|true=>(have hb:0<i∧AP3 y x=false:=(by unfold AV4 at hg;unfold AP3;simp_all;try grind);rw[Am9 hx hy hb.1 hb.2];simp)
   refine R5 ?_;exact D1 rfl (A5 rfl qz183)
  intro h40;have hg:AV4 x=true∧(0<i→AP3 y x=true):=by unfold AV4 AP3;simp_all
  refine R5 ?_;refine F1 i (i+1) ?_ ?_ (T4 1 A6)
  ·exact zq75
  omega
 intro h9 k9;have hge:c.Vers.length≤i:=by omega
 refine R6 ?_;refine zF rfl Tryz.call29 (Z0 _ _ _) AR5 ?_;refine R3 ?_;exact D1 rfl (A5 rfl qz183)
theorem DC8 (c:B8)(hs:c.size≤4194304):D6 360 [AV.agg c.cs] (AV.bool (Ao4 c)):=by
 have hcl:=AW0 hs;refine B0 Tryz.func360 rfl Tryz.ntmps360 rfl ?_;refine R3 ?_;intro b1;refine R11 ?_;refine E8 [(1,_),(6,_),(7,_)] _ (fun (i:Nat)=>i≤c.Vers.length∧(c.Vers.all (Ai0 c.Key)&&adj AP3 c.Vers)=((c.Vers.drop i).all (Ai0 c.Key)&&adj AP3 (c.Vers.drop (i-1)))) (fun i=>[]) (fun i=>[(8,AV.int i)]) (fun i=>c.Vers.length-i) (0) ?_ (G2 A6) ?_
 ·exact zq4
 intro i hinv;refine zK ?_ ?_
 ·intro h9 k9;have hlt:i<c.Vers.length:=by omega
  obtain⟨x,hx⟩:=B2 hlt;obtain⟨y,hy⟩:=B2 (show i-1<c.Vers.length by omega);have hsx:x.size≤4194304:=L7 (W4 hx) hcl.2.2;unfold U0.size at hsx;refine R6 ?_;refine A1 rfl (C2 rfl X7 z5 zA zA hx qz1) ?_;refine R2 ?_;intro b4;refine R7 ?_;refine B3 rfl rfl (zG rfl Tryz.call323 (DC6 _) G6) ?_;refine R8 ?_;refine M1 rfl (Y6 rfl rfl rfl) (fun hc=>zG rfl Tryz.call357 (Bq2 _ _ _ qz7 qz7) (A2 (A7 rfl hc) (A2 (A7 rfl hc) (A2 (A7 rfl hc) A9)))) ?_;refine R10 ?_;refine M1 rfl (Y9 rfl rfl rfl) (fun hc=>C2 rfl X7 z5 (A7 rfl hc) (A7 rfl hc) hy qz6) ?_;refine zC ?_ ?_
  ·intro h42;have hfin:Ao4 c=false:=by unfold Ao4;rw[hinv.2];cases hg:Ai0 c.Key x with|false=>(rw[Av0 hx hg];simp)|true=>(have hb:0<i∧AP3 y x=false:=(by unfold Ai0 at hg;unfold AP3;simp_all;try grind);rw[Am9 hx hy hb.1 hb.2];simp)
   refine R5 ?_;exact D1 rfl (A5 rfl qz182)
  intro h42;have hg:Ai0 c.Key x=true∧(0<i→AP3 y x=true):=by unfold Ai0 AP3;simp_all
  refine R5 ?_;refine F1 i (i+1) ?_ ?_ (T4 1 A6)
  ·exact zq75
  omega
 intro h9 k9;have hge:c.Vers.length≤i:=by omega
 refine R5 ?_;refine zF rfl Tryz.call117 (AZ6 _ qz7) (A2 (A0 rfl) A9) ?_;refine R4 ?_;refine zq179 ?_;refine R4 ?_;exact D1 rfl (A5 rfl qz182)
theorem Bc0 (l:List B8)(hs:D2 B8.size l≤4194304):D6 243 [AV.list 2 (l.map B8.cs)] (AV.bool (o1 l)):=by
 have hl:l.length≤4194304:=L7 M7 hs;have hks:∀k∈AA8 l,k.length≤4611686018427387904:=fun k hk=>by
  obtain⟨w,hw,rfl⟩:=n6.1 hk;have:=AW0 (L7 (Af8 hw) hs);omega
 refine B0 Tryz.func243 rfl Tryz.ntmps243 rfl ?_;refine R6 ?_;refine S3 rfl rfl rfl rfl E2 I6 ?_;intro v6;refine R10 ?_;refine K5 [(0,_),(7,_),(8,_)] _ (fun (i:Nat) (v:Value)=>i≤l.length∧l.all Ai5=(l.drop i).all Ai5) (fun i v=>[.arr v 9 1 ((l.take i).map fun w=>[AV.str w.Key])]) (fun i v=>[(3,AV.is v),(9,AV.int i)]) (fun i v=>l.length-i) (0) (v6) ?_ (I1 B7 A6) ?_
 ·exact zq4
 intro i v hinv;refine zK ?_ ?_
 ·intro h10 k10;have hlt:i<l.length:=by omega
  obtain⟨x,hx⟩:=B2 hlt;have hsx:x.size≤4194304:=L7 (W4 hx) hs;refine R5 ?_;refine zq71 ?_;intro b5;refine R6 ?_;refine zF rfl Tryz.call294 (DC7 _ X9) (A2 (A0 rfl) A9) ?_;refine zC ?_ ?_
  ·intro h15;refine R5 ?_;exact D1 rfl (A5 rfl qz130)
  intro h15;refine R6 ?_;refine I0 (by':=16) 1 rfl rfl rfl rfl E2 Tryz.type9 rfl rfl rfl rfl rfl rfl zA zA rfl qz1 ?_;intro v20_1;refine R6 ?_;refine H5 i v (i+1) (v20_1) ?_ ?_ (D5 1 (by exact F2 (fun z=>[Own.arr v20_1 9 1 z]) (AS5 (f:=fun w:B8=>[AV.str w.Key]) hx)) A6)
  ·exact⟨by omega,by rw[hinv.2,Au9 hx Ax2]⟩
  omega
 intro h10 k10;have hge:l.length≤i:=by omega
 rw[S7 hge,show (l.map fun w=>[AV.str w.Key])=(AA8 l).map (fun k=>[AV.str k])from by unfold AA8;rw[List.map_map];rfl];refine R8 ?_;refine L5 rfl (fun hc=>n2 rfl Tryz.call107 rfl (Ad9 (AA8 l) hks) (T9 _) (N7 (BQ1 0 (A7 rfl hc) rfl) o8)) ?_;refine R4 ?_;exact D1 rfl (A5 rfl qz130)
theorem By7 (l:List B8)(hs:D2 B8.size l≤4194304):D6 331 [AV.list 2 (l.map B8.cs)] (AV.bool (BB1 l)):=by
 refine B0 Tryz.func331 rfl Tryz.ntmps331 rfl ?_;refine Y0 (t:=0) rfl fun hl=> ?_;try simp only[A8]at hl
 refine R12 ?_;refine E8 [(0,_),(5,_),(6,_)] _ (fun (i:Nat)=>i≤l.length∧(l.all Ao4&&adj u7 l)=((l.drop i).all Ao4&&adj u7 (l.drop (i-1)))) (fun i=>[]) (fun i=>[(7,AV.int i)]) (fun i=>l.length-i) (0) ?_ (G2 A6) ?_
 ·exact zq4
 intro i hinv;refine zK ?_ ?_
 ·intro h8 k8;have hlt:i<l.length:=by omega
  obtain⟨x,hx⟩:=B2 hlt;obtain⟨y,hy⟩:=B2 (show i-1<l.length by omega);have hsx:x.size≤4194304:=L7 (W4 hx) hs;refine R6 ?_;refine zq71 ?_;intro b4;refine R6 ?_;refine B3 rfl rfl (zG rfl Tryz.call360 (DC8 _ X9) (A2 (A0 rfl) A9)) ?_;refine R8 ?_;refine M1 rfl (Y9 rfl rfl rfl) (fun hc=>C2 rfl E7 K0 (A7 rfl hc) (A7 rfl hc) hy qz6) ?_;refine R4 ?_;refine M1 rfl (Y9 rfl rfl rfl) (fun hc=>Bn3 rfl (A7 rfl hc) (A7 rfl hc)) ?_;refine zC ?_ ?_
  ·intro h29;have hfin:BB1 l=false:=by unfold BB1;rw[hinv.2];cases hg:Ao4 x with|false=>(rw[Av0 hx hg];simp)|true=>(have hb:0<i∧u7 y x=false:=(by unfold u7;simp_all;try grind);rw[Am9 hx hy hb.1 hb.2];simp)
   refine R5 ?_;exact D1 rfl (A5 rfl qz171)
  intro h29;have hg:Ao4 x=true∧(0<i→u7 y x=true):=by unfold u7;simp_all
  refine R5 ?_;refine F1 i (i+1) ?_ ?_ (T4 1 A6)
  ·exact zq75
  omega
 intro h8 k8;have hge:l.length≤i:=by omega
 refine R9 ?_;exact D1 rfl (A5 rfl qz171)
theorem CT5 (c:B8)(k:Str):D6 276 [AV.agg c.cs,AV.str k] (AV.int (CF6 k c)):=by
  refine B0 Tryz.func276 rfl Tryz.ntmps276 rfl ?_;refine R3 ?_;intro b2;refine R7 ?_;refine zF rfl Tryz.call277 (By6 _ _) F3 ?_;exact zq158
theorem At6 (l:List B8)(k:Str)(hs:l.length≤4611686018427387903):D6 220 [AV.list 2 (l.map B8.cs),AV.str k] (AV.tup [AV.int (AK2 l k),AV.bool (Ar1 l k)]):=by
  refine B0 Tryz.func220 rfl Tryz.ntmps220 rfl ?_;refine R9 ?_;refine zF rfl Tryz.call275 (Bb3 _ _ _ Au5 _ qz7) (A2 (A0 rfl) (A2 (A0 rfl) (A2 (Ba4 Tryz.call276 (fun c k (_:True)=>CT5 c k)) A9))) ?_;refine R6 ?_;exact zq137
theorem Cb4 {c:B8}(h:1≤c.Vers.length):∃v,c.Vers[c.Vers.length-1]? =some v∧Cm2 c=v.Time:=by
  obtain⟨v,hv⟩:=B2 (show c.Vers.length-1<c.Vers.length by omega);refine⟨v,hv,?_⟩;unfold Cm2;rw[List.getLast?_eq_getElem?,hv]
theorem BL1 (l:List B8)(k:Str)(ho:AN8 l)(hs:D2 B8.size l≤4194304):D6 245 [AV.list 2 (l.map B8.cs),AV.str k] (AV.int (O5 l k)):=by
 have hl:l.length≤4194304:=L7 M7 hs;refine B0 Tryz.func245 rfl Tryz.ntmps245 rfl ?_;refine R8 ?_;refine zF rfl Tryz.call220 (At6 _ _ X9) (A2 (A0 rfl) (A2 (A0 rfl) A9)) ?_;refine zC ?_ ?_
 ·intro h14;have hn:Ar1 l k=false:=by simpa using h14
  have he:O5 l k=0:=by unfold O5;rw[BR7 ho.1,hn];rfl
  rw[he];refine R5 ?_;exact zq16
 intro h14;have hn:Ar1 l k=true:=by simpa using h14
 obtain⟨c,hc,hck⟩:=Av2.1 hn;obtain⟨v,hv,hlv⟩:=Cb4 (ho.2 c (C3 hc));have hcl:=AW0 (L7 (W4 hc) hs);have hc1:=ho.2 c (C3 hc);have he:O5 l k=v.Time:=by unfold O5;rw[BR7 ho.1,hn,D9 rfl,hc];exact hlv
 rw[he];refine R5 ?_;refine zq134 ?_;refine R5 ?_;exact zq16
theorem Bq3 (l:List B8)(k:Str):D6 164 [AV.list 2 (l.map B8.cs),AV.str k] (AV.int (atC l k)):=by
 refine B0 Tryz.func164 rfl Tryz.ntmps164 rfl ?_;refine Y0 (t:=0) rfl fun hl=> ?_;try simp only[A8]at hl
 refine R12 ?_;refine E8 [(1,_),(7,_),(8,_)] _ (fun (i:Nat)=>i≤l.length∧∀j x,j<i→l[j]? =some x→x.Key≠k) (fun i=>[]) (fun i=>[(9,AV.int i)]) (fun i=>l.length-i) (0) ?_ (G2 A6) ?_
 ·exact⟨E4 _,fun j x h=>by omega⟩
 intro i hinv;refine zK ?_ ?_
 ·intro h10 k10;have hlt:i<l.length:=by omega
  obtain⟨x,hx⟩:=B2 hlt;refine R6 ?_;refine zq71 ?_;intro b6;refine zC ?_ ?_
  ·intro h17;refine R6 ?_;exact D1 rfl (A5 rfl qz136)
  intro h17;refine R5 ?_;refine F1 i (i+1) ?_ ?_ (T4 1 A6)
  ·exact⟨by omega,fun j y hj hy=>if hji:j<i then hinv.2 j y hji hy else (by have e:j=i:=qz7;subst e;rw[hx]at hy;injection hy with hy;subst hy;simpa using h17)⟩
  omega
 intro h10 k10;have hge:l.length≤i:=by omega
 refine R6 ?_;exact D1 rfl (A5 rfl qz136)
theorem BZ4 (l:List B8)(k:Str)(ho:AN8 l)(hs:D2 B8.size l≤4194304):D6 330 [AV.list 2 (l.map B8.cs),AV.str k] (AV.int (O5 l k)):=by
 refine B0 Tryz.func330 rfl Tryz.ntmps330 rfl ?_;refine R8 ?_;refine zF rfl Tryz.call164 (Bq3 _ _) F3 ?_;refine zK ?_ ?_
 ·intro h10 k10;have hn:o6 l k=none:=CS4 k10;have he:O5 l k=0:=by unfold O5;rw[hn]
  rw[he];refine R5 ?_;exact zq16
 intro h10 k10;obtain⟨p,c,hp,hc,hf⟩:=CS5 k10;rw[hp];obtain⟨v,hv,hlv⟩:=Cb4 (ho.2 c (C3 hc));have hcl:=AW0 (L7 (W4 hc) hs);have hc1:=ho.2 c (C3 hc);have he:O5 l k=v.Time:=by unfold O5;rw[hf];exact hlv
 rw[he];refine R5 ?_;refine zq134 ?_;refine R5 ?_;exact zq16
end Go.PQ
namespace Go.M
open Go.AV
structure w6 where
  p:Nat
  seed:Int
def BB7 (l:List Int):AV:=AV.list 1 (l.map fun x=>[AV.ik .u8 x])
def q8 (code:List Int)(c:w6):List AV:=[BB7 code,AV.int c.p,AV.ik .u64 c.seed]
def AJ3 (code:List Int):Prop:=∀x∈code,0≤x∧x≤255
theorem Cr8 {l:List Int}(h:∀x∈l,(Lit.int .u8 x).wf=true):AJ3 l:=fun x hx=>by
  have:=h x hx;simp only[Lit.wf,IntKind.min,IntKind.max,IntKind.signed,IntKind.bits]at this;simp at this;omega
theorem Bw6 {x:Int}(h:0≤x∧x≤255):IntKind.i64.wrap x=x:=BR1 qz7
theorem Ag1 (x:Int):0≤T3 x 255∧T3 x 255≤255:=by
  unfold T3;have h1:(BitVec.ofInt IntKind.u64.bits x&&& BitVec.ofInt IntKind.u64.bits 255).toNat≤255:=by
    rw[BitVec.toNat_and];exact L7 Nat.and_le_right E5
  generalize (BitVec.ofInt IntKind.u64.bits x&&& BitVec.ofInt IntKind.u64.bits 255).toNat=n at h1
  unfold IntKind.wrap;simp[IntKind.bits,IntKind.signed];omega
def bigB (code more:List Int):Bool:=decide ((1048576:Int)<code.length)||decide ((1048576:Int)-code.length<more.length)
end Go.M
namespace Go.PQ
open Go.Proofs Go.Proofs.Tryz
open Go Go.AV Go.M
attribute [local irreducible] OpW OpA OpS AWP J6 L6 K3 OpE K4 I5 L0 Le Ev G4 L9 Int.tmod IntKind.wrap T3
theorem By8 (b:Nat)(code:List Int)(hcode:AJ3 code)(c:w6)(hp:c.p≤8000000):M0 104 [AV.ptr b 0] [.box b 77 (q8 code c)] (fun x:w6×Int=>x.1.p≤c.p+1∧0≤x.2∧x.2≤255) (fun x=>[.box b 77 (q8 code x.1)]) (fun x=>AV.int x.2):=by
 have hcb:=hcode;refine C8 func104 rfl ntmps104 rfl ?_;refine R6 ?_;try rw[Bw6 hzb]
 refine zK ?_ ?_
 ·intro h13 k13;obtain⟨z,hz⟩:=B2 (show c.p<code.length by omega);have hzb:=hcb z (C3 hz);refine R9 ?_;refine B3 rfl rfl (C2 rfl AL5 sizeOf5 zA zA hz rfl) ?_;refine R1 ?_;refine B3 rfl rfl (Ad1 rfl E3 W8 zA) ?_;try rw[Bw6 hzb]
  refine R20 ?_;refine zq169 ?_;refine zC ?_ ?_
  ·intro h53;refine R6 ?_
   (refine I9 [0] ((⟨c.p+1,_⟩,_)) ?_ rfl z8 (O2 rfl (A5 rfl W5));first|exact⟨K9 _,hzb⟩|exact⟨K9 _,Int.le_refl 0,(show (0:Int)≤255 by decide)⟩|(rw[Bw6 (Ag1 _)];exact⟨K9 _,Ag1 _⟩))
  intro h53;refine zq221 ?_
  (refine I9 [0] ((⟨c.p+1,_⟩,_)) ?_ rfl z8 (O2 rfl (A5 rfl W5));first|exact⟨K9 _,hzb⟩|exact⟨K9 _,Int.le_refl 0,(show (0:Int)≤255 by decide)⟩|(rw[Bw6 (Ag1 _)];exact⟨K9 _,Ag1 _⟩))
 intro h13 k13;refine R19 ?_;refine zq169 ?_;refine zC ?_ ?_
 ·intro h53;refine R6 ?_
  (refine I9 [0] ((⟨c.p+1,_⟩,_)) ?_ rfl z8 (O2 rfl (A5 rfl W5));first|exact⟨K9 _,hzb⟩|exact⟨K9 _,Int.le_refl 0,(show (0:Int)≤255 by decide)⟩|(rw[Bw6 (Ag1 _)];exact⟨K9 _,Ag1 _⟩))
 intro h53;refine zq221 ?_
 (refine I9 [0] ((⟨c.p+1,_⟩,_)) ?_ rfl z8 (O2 rfl (A5 rfl W5));first|exact⟨K9 _,hzb⟩|exact⟨K9 _,Int.le_refl 0,(show (0:Int)≤255 by decide)⟩|(rw[Bw6 (Ag1 _)];exact⟨K9 _,Ag1 _⟩))
theorem V4 (b:Nat)(code:List Int)(hcode:AJ3 code)(c:w6)(n:Int)(hn:n≤1000000)(hp:c.p≤7000000):M0 32 [AV.ptr b 0,AV.int n] [.box b 77 (q8 code c)] (fun x:w6×Int=>x.1.p≤c.p+2∧0≤x.2∧(x.2<n∨x.2=0)) (fun x=>[.box b 77 (q8 code x.1)]) (fun x=>AV.int x.2):=by
 refine C8 func32 rfl ntmps32 rfl ?_;refine zK ?_ ?_
 ·intro h7 k7;refine R5 ?_
  (refine I9 [0] ((_,_)) ?_ rfl z8 (O2 rfl (A5 rfl W5));(dsimp only;first|omega|exact⟨by omega,Int.tmod_nonneg _ qz7,.inl (Int.tmod_lt_of_pos _ qz7)⟩))
 intro h7 k7;refine R4 ?_;refine zI [0] rfl call104 (By8 _ _ hcode _ qz7) (A2 (A0 rfl) A9) rfl ?_;intro x9 ok9;refine zK ?_ ?_
 ·intro h11 k11;refine R2 ?_;refine A1 rfl (Ad0 rfl zA L1 qz1) ?_;refine R1 ?_;refine zI [0] rfl call104 (By8 _ _ hcode _ qz7) (A2 (A0 rfl) A9) rfl ?_;intro x15 ok15;refine R7 ?_;refine A1 rfl (BM8 rfl zA zA qz7) ?_;refine R3 ?_
  (refine I9 [0] ((_,_)) ?_ rfl z8 (O2 rfl (A5 rfl W5));(dsimp only;first|omega|exact⟨by omega,Int.tmod_nonneg _ qz7,.inl (Int.tmod_lt_of_pos _ qz7)⟩))
 intro h11 k11;refine R5 ?_;refine A1 rfl (BM8 rfl zA zA qz7) ?_;refine R3 ?_
 (refine I9 [0] ((_,_)) ?_ rfl z8 (O2 rfl (A5 rfl W5));(dsimp only;first|omega|exact⟨by omega,Int.tmod_nonneg _ qz7,.inl (Int.tmod_lt_of_pos _ qz7)⟩))
theorem CJ4 (b:Nat)(code:List Int)(hcode:AJ3 code)(c:w6)(n:Int)(hn:n≤1000000)(hp:c.p≤7000000):M0 31 [AV.ptr b 0,AV.int n] [.box b 77 (q8 code c)] (fun x:w6×Bool=>x.1.p≤c.p+2) (fun x=>[.box b 77 (q8 code x.1)]) (fun x=>AV.bool x.2):=by
  refine C8 func31 rfl ntmps31 rfl ?_;refine R8 ?_;refine zI [0] rfl call32 (V4 _ _ hcode _ _ qz7 qz7) (A2 (A0 rfl) (A2 (A0 rfl) A9)) rfl ?_;intro x7 ok7;refine R4 ?_
  (refine I9 [0] ((_,_)) ?_ rfl z8 Q4;exact ok7.1)
theorem AM7 (b:Nat)(code:List Int)(hcode:AJ3 code)(c:w6)(l:List Int)(hl:1≤l.length∧l.length≤1000)(hp:c.p≤7000000):M0 143 [AV.ptr b 0,ints l] [.box b 77 (q8 code c)] (fun x:w6×Int=>x.1.p≤c.p+2∧x.2∈l) (fun x=>[.box b 77 (q8 code x.1)]) (fun x=>AV.int x.2):=by
  obtain⟨hl1,hl2⟩:=hl;refine C8 func143 rfl ntmps143 rfl ?_;refine R10 ?_;refine zI [0] rfl call32 (V4 _ _ hcode _ _ AE8 qz7) (A2 (A0 rfl) (A2 (A0 rfl) A9)) rfl ?_;intro x9 ok9;simp only[A8]at ok9;obtain⟨y,hy⟩:=B2 (show x9.2.toNat<l.length by omega);refine A1 rfl (C2 rfl D3 E9 zA zA hy qz7) ?_;refine R4 ?_
  (refine I9 [0] ((_,_)) ?_ rfl z8 Q4;exact⟨ok9.1,C3 hy⟩)
end Go.PQ
namespace Go.PQ
open Go.Proofs
open Go Go.AV Go.M
attribute [local irreducible] OpW OpA OpS AWP J6 L6 K3 OpE K4 I5 L0 Le Ev G4 L9
theorem big_spec (code more:List Int):D6 4 [BB7 code,BB7 more] (AV.bool (bigB code more)):=by
 refine B0 Tryz.func4 rfl Tryz.ntmps4 rfl ?_;refine Y0 (t:=0) rfl fun hl0=> ?_;try simp only[A8]at hl0
 refine Y0 (t:=1) rfl fun hl1=> ?_;try simp only[A8]at hl1
 refine R14 ?_;refine S0 rfl (fun hc=>w_subi rfl L1 (A7 rfl hc) AE8) ?_;refine R5 ?_;exact D1 rfl (A5 rfl (by (refine F2 AV.bool ?_;unfold bigB;simp only[A8])))
attribute [local irreducible] Int.tmod Int.tdiv IntKind.wrap T3
theorem Bc1 (a b:List Str):D6 52 [strs a,strs b] (AV.bool (decide (a=b))):=by
 refine B0 Tryz.func52 rfl Tryz.ntmps52 rfl ?_;refine Y0 (t:=0) rfl fun hl=> ?_;try simp only[A8]at hl
 refine zC ?_ ?_
 ·intro h10;have k10:=Af4 h10;(try simp only[A8]at k10);have hab:a≠b:=by intro hc;subst hc;exact k10 rfl
  exact zq93
 intro h10;have k10:=AI9 h10;(try simp only[A8]at k10);have heq:a.length=b.length:=by omega
 refine R9 ?_;refine E8 [(0,_),(1,_),(12,_)] _ (fun (i:Nat)=>i≤a.length∧a.take i=b.take i) (fun i=>[]) (fun i=>[(13,AV.int i)]) (fun i=>a.length-i) (0) ?_ (G2 A6) ?_
 ·exact zq4
 intro i hinv;refine zK ?_ ?_
 ·intro h14 k14;have hlt:i<a.length:=by omega
  obtain⟨x,hx⟩:=B2 hlt;obtain⟨y,hy⟩:=B2 (show i<b.length by omega);refine R12 ?_;refine B3 rfl rfl (C2 rfl E2 I6 zA zA hx qz1) ?_;refine R3 ?_;refine zq172 ?_;refine zC ?_ ?_
  ·intro h24;have hab:a≠b:=by intro hc;subst hc;rw[hx]at hy;injection hy with hy;subst hy;simp at h24
   exact zq93
  intro h24;refine R5 ?_;refine F1 i (i+1) ?_ ?_ (G2 A6)
  ·exact⟨by omega,Ay3 hinv.2 hx (by rw[hy];congr 1;simp_all)⟩
  omega
 intro h14 k14;have hge:a.length≤i:=by omega
 have hab:a=b:=BN4 heq hinv.2 hge;refine R6 ?_;exact D1 rfl (A5 rfl BK5)
end Go.PQ
namespace Go.PQ
open Go.Proofs
open Go Go.AV Go.M
attribute [local irreducible] OpW OpA OpS AWP J6 L6 K3 OpE K4 I5 L0 Le Ev G4 L9 Int.tmod Int.tdiv IntKind.wrap
theorem BH0 (n:Int):D6 198 [AV.int n] (AV.bool (AS7 n)):=by
  refine B0 Tryz.func198 rfl Tryz.ntmps198 rfl ?_;refine R7 ?_;refine zF rfl Tryz.call29 (Z0 _ _ _) AR5 ?_;exact zq218
namespace tw6n4
def CP3 :=@Tryz.func323
def CP4 :=@Tryz.ntmps323
def CP5 :=@Tryz.call87
def CP6 :=@T7
end tw6n4
open tw6n4 in
theorem An7 (t:Int):D6 323 [AV.int t] (AV.bool (within t 1 100000)):=Bb8
theorem Bq4 {r:N5}(hs:r.size≤1048576):(∀k∈r.Reads,k.length≤4611686018427387904)∧D2 B1.size r.Writes≤1048576∧r.Reads.length≤1048576∧r.Writes.length≤1048576:=by
  unfold N5.size at hs;have h1:=M7 (f:=fun x:Str=>x.length) (l:=r.Reads);have h2:=M7 (f:=B1.size) (l:=r.Writes);exact⟨fun k hk=>by have:=Af8 (f:=fun x:Str=>x.length) hk;omega,by omega,by omega,by omega⟩
theorem Az3 (r:N5)(hs:r.size≤1048576):D6 167 [AV.agg r.cs] (AV.bool (T8 r)):=by
 obtain⟨hr1,hr2,hr3,hr4⟩:=Bq4 hs;refine B0 Tryz.func167 rfl Tryz.ntmps167 rfl ?_;refine R3 ?_;intro b1;refine zC ?_ ?_
 ·intro h21;have k21:=J9 h21;(try simp only[A8]at k21);refine R4 ?_;refine zF rfl Tryz.call198 (BH0 _) G6 ?_;refine R3 ?_;refine L5 rfl (fun hc=>zG rfl Tryz.call230 (Aj5 _) zS) ?_;refine R4 ?_;refine L5 rfl (fun hc=>zG rfl Tryz.call29 (Z0 _ _ _) (A2 (A7 rfl hc) AT1)) ?_;refine R10 ?_;refine L5 rfl (fun hc=>zG rfl Tryz.call107 (Ad9 r.Reads hr1) zS) ?_;refine R10 ?_;refine L5 rfl (fun hc=>zG rfl Tryz.call231 (CJ2 r.Writes qz7) zS) ?_;refine R19 ?_;exact D1 rfl (A5 rfl CB0)
 intro h21;have k21:=J4 h21;(try simp only[A8]at k21);refine zC ?_ ?_
 ·intro h73;have k73:=J9 h73;(try simp only[A8]at k73);refine zC ?_ ?_
  ·intro h73;have k73:=J9 h73;(try simp only[A8]at k73);refine R6 ?_;exact zq103
  intro h73;have k73:=J4 h73;(try simp only[A8]at k73);refine zC ?_ ?_
  ·intro h101;have k101:=J9 h101;(try simp only[A8]at k101);exact zq184
  intro h101;have k101:=J4 h101;(try simp only[A8]at k101);refine R6 ?_;exact D1 rfl (A5 rfl CB0)
 intro h73;have k73:=J4 h73;(try simp only[A8]at k73);refine zC ?_ ?_
 ·intro h73;have k73:=J9 h73;(try simp only[A8]at k73);refine R6 ?_;exact zq103
 intro h73;have k73:=J4 h73;(try simp only[A8]at k73);refine zC ?_ ?_
 ·intro h101;have k101:=J9 h101;(try simp only[A8]at k101);exact zq184
 intro h101;have k101:=J4 h101;(try simp only[A8]at k101);refine R6 ?_;exact D1 rfl (A5 rfl CB0)
theorem DC9 (l:List Str)(hs:∀k∈l,k.length≤4611686018427387904):D6 324 [strs l] (AV.bool (Bd4 l)):=by
 refine B0 Tryz.func324 rfl Tryz.ntmps324 rfl ?_;refine Y0 (t:=0) rfl fun hl=> ?_;try simp only[A8]at hl
 refine R12 ?_;refine E8 [(0,_),(5,_),(6,_)] _ (fun (i:Nat)=>i≤l.length∧(l.all y7&&adj Op.bytesLess l)=((l.drop i).all y7&&adj Op.bytesLess (l.drop (i-1)))) (fun i=>[]) (fun i=>[(7,AV.int i)]) (fun i=>l.length-i) (0) ?_ (G2 A6) ?_
 ·exact zq4
 intro i hinv;refine zK ?_ ?_
 ·intro h8 k8;have hlt:i<l.length:=by omega
  obtain⟨x,hx⟩:=B2 hlt;obtain⟨y,hy⟩:=B2 (show i-1<l.length by omega);have hsx:=hs x (C3 hx);refine zq220 ?_;refine zF rfl Tryz.call117 (AZ6 _ qz7) (A2 (A0 rfl) A9) ?_;refine R8 ?_;refine AF2 rfl rfl (Y9 rfl rfl rfl) (fun hc=>AX5 rfl E2 I6 (A7 rfl hc) (A7 rfl hc) (by have:=AB7 (BM7 hc);omega) qz114) ?_;refine R2 ?_;refine zq174 ?_;refine zC ?_ ?_
  ·intro h27;have hfin:(l.all y7&&adj Op.bytesLess l)=false:=by rw[hinv.2,J8 hx,AA7];cases hg:y7 x with|false=>simp|true=>(simp only[hg,Bool.not_true,Bool.false_or,F0,H6,n5]at h27;rw[Am9 hx hy qz7 h27.2];simp)
   refine R5 ?_;exact D1 rfl (A5 rfl qz158)
  intro h27;refine R5 ?_;refine F1 i (i+1) ?_ ?_ (G2 A6)
  ·exact zq153
  omega
 intro h8 k8;have hge:l.length≤i:=by omega
 refine R9 ?_;exact D1 rfl (A5 rfl qz158)
theorem By9 (r:N5)(hs:r.size≤1048576):D6 279 [AV.agg r.cs] (AV.bool (BJ9 r)):=by
 obtain⟨hr1,hr2,hr3,hr4⟩:=Bq4 hs;refine B0 Tryz.func279 rfl Tryz.ntmps279 rfl ?_;refine R3 ?_;intro b1;refine zC ?_ ?_
 ·intro h20;have ho:BL7 r=true:=by (unfold BL7;simpa using h20)
  refine R5 ?_;exact D1 rfl (A5 rfl CQ8)
 intro h20;have ho:BL7 r=false:=by (unfold BL7;simpa using h20)
 refine zC ?_ ?_
 ·intro h23;have k23:=J9 h23;(try simp only[A8]at k23);refine R4 ?_;refine zF rfl Tryz.call87 (T7 _ _ _) AR5 ?_;refine R3 ?_;refine L5 rfl (fun hc=>zG rfl Tryz.call323 (An7 _) zS) ?_;refine R4 ?_;refine zq179 ?_;refine R4 ?_;refine L5 rfl (fun hc=>zG rfl Tryz.call324 (DC9 r.Reads hr1) zS) ?_;refine R4 ?_;refine L5 rfl (fun hc=>zG rfl Tryz.call325 (Cf7 r.Writes qz7) zS) ?_;refine R5 ?_;refine zq179 ?_;refine R19 ?_;exact D1 rfl (A5 rfl CQ8)
 intro h23;have k23:=J4 h23;(try simp only[A8]at k23);refine zC ?_ ?_
 ·intro h69;have k69:=J9 h69;(try simp only[A8]at k69);refine zC ?_ ?_
  ·intro h69;have k69:=J9 h69;(try simp only[A8]at k69);refine R4 ?_;exact zq132
  intro h69;have k69:=J4 h69;(try simp only[A8]at k69);exact zq178
 intro h69;have k69:=J4 h69;(try simp only[A8]at k69);refine zC ?_ ?_
 ·intro h69;have k69:=J9 h69;(try simp only[A8]at k69);refine R4 ?_;exact zq132
 intro h69;have k69:=J4 h69;(try simp only[A8]at k69);exact zq178
theorem BS1 (r:N5)(hs:r.size≤1048576):D6 222 [AV.agg r.cs] (AV.bool (BJ9 r)):=by
  refine B0 Tryz.func222 rfl Tryz.ntmps222 rfl ?_;refine R3 ?_;intro b1;refine R5 ?_;refine zF rfl Tryz.call279 (By9 _ X9) (A2 (A0 rfl) A9) ?_;exact zq158
end Go.PQ
namespace Go.AV
open Go.Sort
theorem core_row {R:I7}{w w':World}{v:Value}{g:Nat}{t:TypeId}{sz:Nat}{es es':List (List AV)}{xs:List Value}(hb:v.ownBlock=some g)(hr:RLe R w)(hR:R g=none)(hg:w.grownBy w' (some g))
    (hown:w'.ownsRow 0 t sz v es'.length xs) (hd:w5 R xs es'.flatten) (hsz:∀e∈es',e.length=sz):
    X0 (Aa1 [.arr v t sz es]) w R [.arr v t sz es'] R w':=by
  refine⟨hg.os,hg.tape,hg.output,hg.size,fun k hk hG=>hg.block k hk fun e=>hG ⟨_,i6.2 rfl,?_⟩,fun b o hbo=> ?_,fun _ _=>rfl,fun o ho=> ?_,fun o ho b e=> ?_,?_⟩
  ·injection e with e;subst e;exact hb
  · have h1:=hr b o hbo
    have hlt:b<w.heap.size:=(AX6.1 h1).1;rw[hg.block b hlt fun e=>by injection e with e;subst e;rw[hR]at hbo;cases hbo];exact h1
  · rw[i6.1 ho]
    exact⟨fun b e=>by rw[hb]at e;injection e with e;subst e;exact hR,hsz,xs,hown,hd⟩
  · rw[i6.1 ho]at e
    exact .inr ⟨_,i6.2 rfl,e⟩
  ·simp[Own.blk,hb]
theorem Db3 {R:I7}{w:World}{o:Own}(hr:RLe R w)(ho:Own.ok R w o):X0 (Aa1 [o]) w R [o] R w:=
  ⟨rfl,rfl,rfl,K9 _,fun _ _ _=>rfl,hr,fun _ _=>rfl,fun q hq=>by rw[i6.1 hq];exact ho,fun q hq b e=> .inr ⟨q,hq,e⟩,by
    simp only[Ak3,List.filterMap_nil]
    cases Own.blk o<;>simp⟩
theorem denC_is {R:I7}{vs ys:List Value}(h:w5 R vs (ys.map AV.is)):vs=ys:=by
  refine List.ext_getElem? fun i=> ?_;have hl:=h.1;rw[A8]at hl;by_cases hi:i<ys.length
  · have h1:vs[i]? =some vs[i]:=Q5 qz7
    have h2:(ys.map AV.is)[i]? =some (AV.is ys[i]):=by rw[a8,Q5 hi];rfl
    have h3:=(h.2 i _ _ h1 h2).1;rw[h1,Q5 hi];exact F2 some h3
  ·rw[AZ8 qz7,AZ8 qz7]
theorem denC_mk {R:I7}{ys:List Value}(h:∀y∈ys,y.oneCell'=true):w5 R ys (ys.map AV.is):=by
  refine⟨by rw[A8],fun i v x hv hx=> ?_⟩;rw[a8,hv]at hx;injection hx with hx;subst hx
  exact⟨rfl,h v (C3 hv)⟩
theorem Bz0 {α:Type}(c:α→AV)(l:List α):(l.map fun n=>[c n]).flatten=l.map c:=by
  induction l with
  |nil=>rfl
  |cons x l ih=>simp[ih]
section ordered
variable {P:Program} {f:FuncId} {t:TypeId} {α:Type} [Inhabited α]
theorem row_own1 (enc:α→Value) (h1c:∀x,(enc x).oneCell'=true) (srt:List α→List α) (hsl:∀l,(srt l).length=l.length)
    (h1:∀(blk off cap:Nat) (zs:List α) (w:World),Holds enc w blk off zs.toArray→blk<w.heap.size→zs.length<4611686018427387904→
      Calls P f #[.slice (some ⟨blk,off,none⟩) zs.length cap] w fun e w'=>e= .returned (.tuple #[])∧∃n os,w'=grow (putRow enc (Sort.ahead w n) blk off (srt zs).toArray) os)
    (h0:∀(p:Option Addr) (cap:Nat) (w:World),Calls P f #[.slice p 0 cap] w fun e w'=>e= .returned (.tuple #[])∧w'=w)
    (v:Value) (l:List α) (hl:l.length<4611686018427387904):
    K3 P f [AV.is v] [.arr v t 1 (l.map fun n=>[AV.is (enc n)])] (fun _:Unit=>True) (fun _=>[.arr v t 1 ((srt l).map fun n=>[AV.is (enc n)])]) (fun _=>AV.tup []):=by
  intro R w vs hr hd hok hnd;have hvs:vs=[v]:=by
    obtain⟨hlen,hval⟩:=hd
    cases vs with
    |nil=>simp at hlen
    | cons a r=>
      cases r with
      |nil=>have h9:=hval 0 a (AV.is v) rfl rfl;rw[show a=v from h9]
      |cons b r=>simp at hlen
  subst hvs;have ho:=hok _ (i6.2 rfl);obtain⟨hR,hsz,xs,hown,hden⟩:=ho;have hxs:xs=l.map enc:=by
    rw[Bz0 (fun n=>AV.is (enc n))]at hden;have h9:l.map (fun n=>AV.is (enc n))=(l.map enc).map AV.is:=by simp
    rw[h9]at hden;exact denC_is hden
  rw[A8]at hown;rcases hown.2 with ⟨hv,hn⟩|⟨g,cap,cur,hv,_,hg,hnc,hcm,hcs,htk⟩
  · have hl0:l=[]:=List.length_eq_zero_iff.1 hn
    subst hv;subst hl0;have hs0:srt []=[]:=List.length_eq_zero_iff.1 (hsl []);refine(h0 none 0 w).mono ?_
    rintro e w' ⟨rfl,rfl⟩
    refine⟨(),_,R,trivial,rfl,⟨[],rfl,m3.nil _⟩,?_⟩;rw[hs0];exact Db3 hr (hok _ (i6.2 rfl))
  · subst hv
    have hgl:g<w.heap.size:=(AX6.1 hg).1;rw[Nat.mul_one]at htk hcs;have hH:Holds enc w g 0 l.toArray:=fun j hj=>by
      have hj':j<l.length:=by simpa using hj
      have h9:cur.toList[j]? =some (enc l[j]):=by
        rw[←AD6 hj',htk,hxs,a8,Q5 hj'];rfl
      refine⟨?_,by simp[World.frozen?,hg]⟩;simp only[World.cell?,hg,Nat.zero_add];simp only[Option.isSome_none,Bool.false_eq_true,if_false];rw[←Array.getElem?_toList,h9];simp[hj']
    refine(h1 g 0 cap l w hH hgl hl).mono ?_
    rintro e w' ⟨rfl,n,os,rfl⟩
    refine⟨(),_,R,trivial,rfl,⟨[],rfl,m3.nil _⟩,?_⟩;have hgb:w.grownBy (grow (putRow enc (Sort.ahead w n) g 0 (srt l).toArray) os) (some g):=by
      refine⟨rfl,rfl,rfl,by simp,fun k hk hne=> ?_⟩;rw[heap_grow_old _ _ (by simpa using hk)];have h9:g≠k:=fun e=>hne (by rw[e]);simp[putRow,mapBlock,Sort.ahead,Array.getElem?_modify,h9]
    have hheap:(grow (putRow enc (Sort.ahead w n) g 0 (srt l).toArray) os).heap[g]? =some (.cells (putCells enc 0 (srt l).toArray cur) t (0,0)):=by
      rw[heap_grow_old _ _ (by simpa using hgl)];simp[putRow,mapBlock,Sort.ahead,Array.getElem?_modify,hg,onCells]
    refine core_row (g:=g) (xs:=(srt l).map enc) rfl hr (hR g rfl) hgb ?_ ?_ ?_
    · rw[A8,hsl]
      refine⟨by simp[hsl],.inr ⟨g,cap,_,rfl,E4 _,hheap,hnc,hcm,by simp[putCells,hcs],?_⟩⟩;apply List.ext_getElem?
      intro j;by_cases hj:j<l.length
      · rw[AD6 qz7,Array.getElem?_toList]
        have h8:j<(srt l).length:=by rw[hsl];exact hj
        simp[putCells,h8,show j<cur.size by omega]
      ·rw[List.getElem?_take_eq_none qz7,AZ8 (by simp[hsl];omega)]
    · rw[Bz0 (fun n=>AV.is (enc n))]
      have h9:(srt l).map (fun n=>AV.is (enc n))=((srt l).map enc).map AV.is:=by simp
      rw[h9];exact denC_mk fun y hy=>by obtain⟨x,_,rfl⟩:=n6.1 hy;exact h1c x
    ·intro e he;obtain⟨x,_,rfl⟩:=n6.1 he;rfl
end ordered
end Go.AV
namespace Go.Proofs
open Go.Shelf
def Tryz.sortStrs_ren :Go.Shelf.Ren:=⟨fun|190=>149|125=>216|258=>215|128=>271|129=>272|302=>262|303=>263|304=>264|305=>265|306=>266|307=>267|308=>268|309=>269|310=>270|333=>316|329=>317|330=>318|334=>319|335=>320|336=>321|344=>356|n=>n,fun|31=>25|9=>9|3=>3|46=>220|0=>0|51=>264|53=>75|4=>4|183=>286|182=>285|131=>128|5=>5|218=>332|222=>336|228=>357|229=>358|n=>n,fun|n=>n⟩
theorem Tryz.sortStrs :Go.Proofs.Lays.n190 Tryz.prog Tryz.sortStrs_ren:=by
  repeat' first|kernel_rfl|(intro w;kernel_rfl)|constructor
end Go.Proofs
namespace Go.PQ
open Go.Proofs
open Go Go.AV Go.M
attribute [local irreducible] OpW OpA OpS AWP J6 L6 K3 OpE K4 I5 L0 Le Ev G4 L9 Int.tmod Int.tdiv IntKind.wrap
theorem BW1 (x y:B1):(x.Key==y.Key&&(x.Val==y.Val&&(x.Gone==y.Gone&&true)))=decide (x=y):=by
  cases x;cases y
  rw[AI1];simp
theorem DK9 {p:Prop}(h:p:=by
 refine B0 tw7x0 rfl tw7x1 rfl ?_;refine Y0 (t:=0) rfl fun hl=> ?_;try simp only[A8]at hl
 refine Y0 (t:=1) rfl fun hl2=> ?_;try simp only[A8]at hl2
 refine zC ?_ ?_
 ·intro h10;have k10:=Af4 h10;(try simp only[A8]at k10);have hne:decide (a=b)=false:=AC1 fun e=>by (subst e;omega)
  rw[hne];exact zq40
 intro h10;have k10:=AI9 h10;(try simp only[A8]at k10);refine R9 ?_;refine E8 [(0,_),(1,_),(12,_)] _ (fun (i:Nat)=>i≤a.length∧a.take i=b.take i) (fun i=>[]) (fun i=>[(13,AV.int i)]) (fun i=>a.length-i) (0) ?_ (G2 A6) ?_
 ·exact zq4
 intro i hinv;refine zK ?_ ?_
 ·intro h14 k14;have hlt:i<a.length:=by omega
  obtain⟨x,hx⟩:=B2 hlt;obtain⟨y,hy⟩:=B2 (show i<b.length by omega);refine R12 ?_;refine B3 rfl rfl (C2 rfl E2 I6 zA zA hx qz1) ?_;refine R3 ?_;refine zq172 ?_;refine zC ?_ ?_
  ·intro h24;have hne:decide (a=b)=false:=AC1 fun e=>by (subst e;rw[hx]at hy;injection hy with hy;simp[hy]at h24)
   rw[hne];exact zq40
  intro h24;refine R5 ?_;refine F1 i (i+1) ?_ ?_ (G2 A6)
  ·exact⟨by omega,by rw[X3,X3,hinv.2,hx,hy];congr 2;simpa using h24⟩
  omega
 intro h14 k14;have hyes:decide (a=b)=true:=W6 Cl0;rw[hyes];refine R6 ?_;exact D1 rfl (A5 rfl B7)):p:=h
namespace tw7n0
def tw7x0 :=@Tryz.func290
def tw7x1 :=@Tryz.ntmps290
end tw7n0
open tw7n0 in
theorem Cf8 (a b:List Str):D6 290 [strs a,strs b] (AV.bool (decide (a=b))):=DK9
namespace tw7n1
def tw7x0 :=@Tryz.func252
def tw7x1 :=@Tryz.ntmps252
end tw7n1
open tw7n1 in
theorem DD0 (a b:List Str):D6 252 [strs a,strs b] (AV.bool (decide (a=b))):=DK9
theorem DL0 {p:Prop}(h:p:=by
 refine B0 tw8x0 rfl tw8x1 rfl ?_;refine Y0 (t:=0) rfl fun hl=> ?_;try simp only[A8]at hl
 refine Y0 (t:=1) rfl fun hl2=> ?_;try simp only[A8]at hl2
 refine zC ?_ ?_
 ·intro h10;have k10:=Af4 h10;(try simp only[A8]at k10);have hne:decide (a=b)=false:=AC1 fun e=>by (subst e;omega)
  rw[hne];exact zq40
 intro h10;have k10:=AI9 h10;(try simp only[A8]at k10);refine R9 ?_;refine E8 [(0,_),(1,_),(12,_)] _ (fun (i:Nat)=>i≤a.length∧a.take i=b.take i) (fun i=>[]) (fun i=>[(13,AV.int i)]) (fun i=>a.length-i) (0) ?_ (G2 A6) ?_
 ·exact zq4
 intro i hinv;refine zK ?_ ?_
 ·intro h14 k14;have hlt:i<a.length:=by omega
  obtain⟨x,hx⟩:=B2 hlt;obtain⟨y,hy⟩:=B2 (show i<b.length by omega);refine R12 ?_;refine B3 rfl rfl (C2 rfl G5 M8 zA zA hx qz1) ?_;refine R3 ?_;refine B3 rfl rfl (C2 rfl G5 M8 zA zA hy qz1) ?_;refine R1 ?_;refine B3 rfl rfl (BI4 rfl Tryz.underlying248 E3 E3 zA zA (j5 E3 u3 rfl rfl (Aj1 P6) (j5 E3 u3 rfl rfl (Aj1 P6) (j5 E3 AF5 rfl rfl (Am1 U4) Aj0)))) ?_;refine zC ?_ ?_
  ·intro h24;have hne:decide (a=b)=false:=AC1 fun e=>by (subst e;rw[hx]at hy;injection hy with hy;rw[BW1]at h24;simp[hy]at h24)
   rw[hne];exact zq40
  intro h24;refine R5 ?_;refine F1 i (i+1) ?_ ?_ (G2 A6)
  ·exact⟨by omega,by rw[X3,X3,hinv.2,hx,hy];congr 2;rw[BW1]at h24;simpa using h24⟩
  omega
 intro h14 k14;have hyes:decide (a=b)=true:=W6 Cl0;rw[hyes];refine R6 ?_;exact D1 rfl (A5 rfl B7)):p:=h
namespace tw8n0
def tw8x0 :=@Tryz.func291
def tw8x1 :=@Tryz.ntmps291
end tw8n0
open tw8n0 in
theorem DD1 (a b:List B1):D6 291 [AV.list 3 (a.map B1.cs),AV.list 3 (b.map B1.cs)] (AV.bool (decide (a=b))):=DL0
namespace tw8n1
def tw8x0 :=@Tryz.func253
def tw8x1 :=@Tryz.ntmps253
end tw8n1
open tw8n1 in
theorem DD2 (a b:List B1):D6 253 [AV.list 3 (a.map B1.cs),AV.list 3 (b.map B1.cs)] (AV.bool (decide (a=b))):=DL0
theorem same_rec (a b:N5):((((((a.Kind==b.Kind&&a.Txn==b.Txn)&&a.Time==b.Time)&&a.Lead==b.Lead)&&a.Yes==b.Yes)&&decide (a.Reads=b.Reads))&&decide (a.Writes=b.Writes))=decide (a=b):=by
  cases a;cases b
  rw[AI1];simp only[F0,m6,H6,N5.mk.injEq];constructor
  ·rintro ⟨⟨⟨⟨⟨⟨h1,h2⟩,h3⟩,h4⟩,h5⟩,h6⟩,h7⟩;exact⟨h1,h2,h3,h4,h6,h7,h5⟩
  ·rintro ⟨h1,h2,h3,h4,h6,h7,h5⟩;exact⟨⟨⟨⟨⟨⟨h1,h2⟩,h3⟩,h4⟩,h5⟩,h6⟩,h7⟩
theorem DL1 {p:Prop}(h:p:=by
  refine B0 tw9x0 rfl tw9x1 rfl ?_;refine R3 ?_;intro b2;refine R1 ?_;intro b3;refine R35 ?_;refine zq77 ?_;refine R6 ?_;refine L5 rfl (fun hc=>A4 rfl tw9x2 rfl (tw9x3 a.Reads b.Reads) zS) ?_;refine R6 ?_;refine L5 rfl (fun hc=>A4 rfl tw9x4 rfl (tw9x5 a.Writes b.Writes) zS) ?_;refine R4 ?_;exact D1 rfl (A5 rfl (by exact F2 AV.bool (same_rec a b)))):p:=h
namespace tw9n0
def tw9x0 :=@Tryz.func232
def tw9x1 :=@Tryz.ntmps232
def tw9x2 :=@Tryz.call290
def tw9x3 :=@Cf8
def tw9x4 :=@Tryz.call291
def tw9x5 :=@DD1
end tw9n0
open tw9n0 in
theorem Cr9 (a b:N5):D6 232 [AV.agg a.cs,AV.agg b.cs] (AV.bool (decide (a=b))):=DL1
namespace tw9n1
def tw9x0 :=@Tryz.func196
def tw9x1 :=@Tryz.ntmps196
def tw9x2 :=@Tryz.call252
def tw9x3 :=@DD0
def tw9x4 :=@Tryz.call253
def tw9x5 :=@DD2
end tw9n1
open tw9n1 in
theorem Cf9 (a b:N5):D6 196 [AV.agg a.cs,AV.agg b.cs] (AV.bool (decide (a=b))):=DL1
theorem BS2 (v:Value)(l:List Str)(hl:l.length<4611686018427387904):M0 149 [AV.is v] [.arr v 9 1 (l.map fun s=>[AV.str s])] (fun _:Unit=>True) (fun _=>[.arr v 9 1 ((AX7 l).map fun s=>[AV.str s])]) (fun _=>AV.tup []):=
  row_own1 Go.Proofs.encStr (fun _=>rfl) AX7 BI8
    (fun blk off cap zs w h1 h2 h3=>Any.slices_Sort_string Tryz.sortStrs blk off cap zs w h1 h2 h3) (fun p cap w=>Any.slices_Sort_string_none Tryz.sortStrs p cap w) v l hl
end Go.PQ
namespace Go.PQ
open Go.Proofs Go.Proofs.Tryz
open Go Go.AV Go.M
attribute [local irreducible] OpW OpA OpS AWP J6 L6 K3 OpE K4 I5 L0 Le Ev G4 L9 Int.tmod Int.tdiv IntKind.wrap
theorem BS3 {l:List Str}{i j:Nat}{s:Str}(h:l[i]? =some s)(hj:j=i*1):((l.map fun s=>[AV.str s]).flatten)[j]? =some (AV.str s):=by
  rw[hj,Nat.mul_one];have e:(l.map fun s=>[AV.str s]).flatten=l.map AV.str:=by
    clear h;induction l with
    |nil=>rfl
    |cons x l ih=>simp[ih]
  rw[e,a8,h];rfl
theorem Bc2 (v:Value)(l:List Str)(hl:l.length≤4194304):M0 274 [AV.is v] [.arr v 9 1 (l.map fun s=>[AV.str s])]
   (fun _:Value=>True) (fun v=>[.arr v 9 1 ((cmpL l).map fun s=>[AV.str s])]) (fun v=>AV.is v):=by
 refine C8 func274 rfl ntmps274 rfl ?_;refine zq10 ?_;refine zK ?_ ?_
 ·intro h8 k8;have hall:cmpL l=l:=by (unfold cmpL;rw[An0 (K9 _) (fun i h1 h2=>by omega),AO5])
  refine R6 ?_;exact I9 [0] v (trivial) rfl qz80 (O2 rfl (A5 rfl W5))
 intro h8 k8;refine R7 ?_;refine E8 [(0,_)] _ (fun (k:Nat)=>(1≤k∧k≤l.length)∧∀i,1≤i→i<k→l[i]? ≠l[i-1]?) (fun k=>[]) (fun k=>[(3,AV.int k)]) (fun k=>l.length-k) (1) ?_ (G2 A6) ?_
 ·exact⟨⟨K9 _,by omega⟩,fun i h1 h2=>by omega⟩
 intro k hinv;refine zK ?_ ?_
 ·intro h13 k13;have hlt:k<l.length:=by omega
  obtain⟨x,hx⟩:=B2 hlt;obtain⟨y,hy⟩:=B2 (show k-1<l.length by omega);refine R7 ?_;refine B3 rfl rfl (I4 0 rfl E2 I6 zA rfl zA qz1 qz1) ?_;refine B3 rfl rfl (AC8 0 rfl zA rfl u3 (BS3 hx qz7)) ?_;refine R3 ?_;refine B3 rfl rfl (I4 0 rfl E2 I6 zA rfl zA qz1 qz1) ?_;refine B3 rfl rfl (AC8 0 rfl zA rfl u3 (BS3 hy qz7)) ?_;refine zC ?_ ?_
  ·intro h25;have hxy:l[k]? =l[k-1]? :=by (rw[hx,hy];have h9:=h25;simp at h9;rw[h9])
   have hinv0:=hinv;refine R4 ?_;refine A1 rfl (BN0 0 rfl E2 I6 zA rfl zA qz1 qz1) ?_;refine R8 ?_;refine W1 [(0,_),(4,_),(10,_),(11,_),(12,_),(13,_),(16,_),(17,_),(18,_),(19,_),(20,_),(21,_),(22,_),(23,_),(24,_),(25,_),(26,_),(27,_),(28,_)] _ (fun (i:Nat) (j:Nat) (m:List Str)=>1≤j∧k+j≤l.length∧i+1≤k+j∧m.length=l.length∧m.take i=AK1 l (k+j)∧m.drop (k+j-1)=l.drop (k+j-1)) (fun i j m=>[.arr v 9 1 (m.map fun s=>[AV.str s])]) (fun i j m=>[(3,AV.int i),(5,AV.int j)]) (fun i j m=>l.length-(k+j)) (k) (1) (l) ?_ (I1 B7 A6) ?_
   ·exact⟨K9 _,by omega,by omega,rfl,by rw[Bo4 qz7 hxy,An0 qz7 hinv0.2],rfl⟩
   intro i j m hinv;refine R5 ?_;refine A1 rfl (w_tlen 0 rfl E2 zA rfl) ?_;refine zK ?_ ?_
   ·intro h32 k32;have hlt1:k+j<l.length:=by omega
    obtain⟨x1,hx1⟩:=B2 hlt1;obtain⟨y1,hy1⟩:=B2 (show k+j-1<l.length by omega);have hmx:=Ay5 hinv.2.2.2.2.2 hx1 qz7;have hmy:=Ay5 hinv.2.2.2.2.2 hy1 qz7;refine R7 ?_;refine B3 rfl rfl (Ba6 0 rfl E2 I6 zA rfl zA qz7 AE8) ?_;refine B3 rfl rfl (AC8 0 rfl zA rfl u3 (BS3 hmx Cl1)) ?_;refine R3 ?_;refine B3 rfl rfl (Ba6 0 rfl E2 I6 zA rfl zA qz7 AE8) ?_;refine B3 rfl rfl (AC8 0 rfl zA rfl u3 (BS3 hmy (by rw[show ((k:Int).toNat+((j:Int)-1).toNat)=k+j-1 by omega]))) ?_;refine zC ?_ ?_
    ·intro h44;refine R6 ?_;refine A1 rfl (Ba6 0 rfl E2 I6 zA rfl zA qz7 AE8) ?_;refine A1 rfl (AC8 0 rfl zA rfl u3 (BS3 hmx Cl1)) ?_;refine A1 rfl (I4 0 rfl E2 I6 zA rfl zA qz7 AE8) ?_;refine e8 0 rfl rfl rfl zA zA (j4 _) rfl I6 rfl Bu6 ?_;refine R11 ?_;refine Q8 i j m (i+1) (j+1) (m.set i x1) ?_ ?_ (I1 (by first|exact F2 (fun z=>[Own.arr v 9 1 z]) (AF4).symm|rfl) A6)
     ·exact Cp4 hinv qz7 hx1 hy1 Bu3
     omega
    intro h44;refine R6 ?_;refine Q8 i j m (i) (j+1) (m) ?_ ?_ (I1 (by first|exact F2 (fun z=>[Own.arr v 9 1 z]) (AF4).symm|rfl) A6)
    ·exact Cp5 hinv qz7 hx1 hy1 Bu3
    omega
   intro h32 k32;have hge:k+j=l.length:=by omega
   refine R5 ?_;refine A1 rfl (BN0 0 rfl E2 I6 zA rfl zA qz1 qz1) ?_;refine CY2 0 rfl rfl rfl E2 zeroValue9 rfl rfl E5 zA rfl Bu6 ?_;refine R5 ?_;refine Co1 0 rfl rfl rfl rfl E2 I6 zA rfl zA qz7 (by simp only[A8,I2,H0,w3];omega) ?_;intro v59_1;refine R3 ?_;exact I9 [0] v59_1 (trivial) rfl qz80 (O2 rfl (A5 rfl W5))
  intro h25;refine R6 ?_;refine F1 k (k+1) ?_ ?_ (G2 A6)
  ·exact⟨⟨by omega,by omega⟩,fun i h1 h2=>if e:i=k then (by subst e;rw[hx,hy];intro e;injection e with e;subst e;simp at h25)else hinv.2 i h1 qz7⟩
  omega
 intro h13 k13;have hall:cmpL l=l:=by (unfold cmpL;rw[An0 (K9 _) (fun i h1 h2=>hinv.2 i h1 qz7),AO5])
 refine R7 ?_;exact I9 [0] v (trivial) rfl qz80 (O2 rfl (A5 rfl W5))
theorem DR1 (r:List Str)(w:List B1)(hr:r.length≤1000000)(hw:D2 B1.size w≤1048576):M0 217 [strs r,AV.list 3 (w.map B1.cs)] [] (fun _:Value=>True) (fun v=>[.arr v 9 1 ((AI4 (r++O8 w)).map fun s=>[AV.str s])]) (fun v=>AV.is v):=by
 have hwl:(O8 w).length≤1048576:=by have:=M7 (f:=B1.size) (l:=w);unfold O8;rw[A8];omega
 have hsl:(AX7 (r++O8 w)).length≤4194304:=by rw[BI8,I2];omega
 refine C8 func217 rfl ntmps217 rfl ?_;refine zq10 ?_;refine R4 ?_;refine zI [] rfl call41 (Ah4 _ X9) (A2 (A0 rfl) A9) rfl ?_;intro x7 ok7;refine R1 ?_;refine zF rfl call273 (Bb9 w qz7) G6 ?_;refine I0 (by':=16) 0 rfl rfl rfl rfl E2 type9 rfl rfl rfl rfl rfl rfl zA zA rfl qz1 ?_;intro v10_1;refine R3 ?_;refine H3 (F2 (fun z=>[Own.arr _ 9 1 z]) (Y3 (f:=fun s=>[AV.str s]) (l₁:=r) (l₂:=O8 w)).symm) ?_;refine R2 ?_;refine zI [0] rfl call149 (BS2 _ (r++O8 w) (by rw[I2];omega)) (A2 (A0 rfl) A9) rfl ?_;intro x12 ok12;refine R4 ?_;refine zI [0] rfl call274 (Bc2 _ (AX7 (r++O8 w)) hsl) G6 rfl ?_;intro x14 ok14;refine R3 ?_;exact I9 [0] x14 (trivial) rfl B7 Q4
end Go.PQ