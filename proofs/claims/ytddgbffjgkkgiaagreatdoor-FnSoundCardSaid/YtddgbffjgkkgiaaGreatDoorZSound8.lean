/- Texts of the claim, part 8. -/
import Derived.Test.YtddgbffjgkkgiaaGreatDoorZSound7
set_option linter.defProp false
set_option linter.unusedVariables false
set_option linter.unusedSimpArgs false
set_option maxRecDepth 100000
set_option maxHeartbeats 4000000
namespace Go.M
open Go.AV
theorem Cd3 {l:List F4}{i:Nat}{e:F4}(h:l[i]? =some e):AM2 (l.take (i+1))=AM2 (l.take i)++[e.Rec]:=by
  unfold AM2;rw[X3,h,Y3];rfl
theorem BW6 {l:List D8}{i:Nat}{r b:D8}(h:l[i]? =some r):(l.take (i+1)).foldl (fun b r=>if b.Sure<r.Sure then r else b) b=(if ((l.take i).foldl (fun b r=>if b.Sure<r.Sure then r else b) b).Sure<r.Sure then r else (l.take i).foldl (fun b r=>if b.Sure<r.Sure then r else b) b):=by
  rw[X3,h,List.foldl_append];rfl
structure LogK (l:List F4):Prop where
  len:l.length≤60
  recs:∀e∈l,e.Rec.size≤1100
theorem CU9 {r:D8}{t:Int}(h:GR r t):LogK r.Log:=⟨h.len,fun e he=>L7 (AY4 (h.ents e he).2.2) E5⟩
theorem BS8 {α:Type}{l:List α}{i:Nat}{x:α}(h:l[i]? =some x):l.set i x=l:=by
  apply List.ext_getElem?
  intro j;by_cases e:i=j
  ·subst e;rw[Ac3 (G1.1 h).1,h]
  ·rw[Ak5 e]
end Go.M
namespace Go.PQ
open Go.Proofs Go.Proofs.Tryz
open Go Go.AV Go.M
attribute [local irreducible] OpW OpA OpS AWP J6 L6 K3 OpE K4 I5 L0 Le Ev G4 L9 Y8 Int.tmod Int.tdiv IntKind.wrap T3
theorem BL5 (l:List F4)(m:Int)(hm:0≤m∧m≤l.length)(hk:LogK l):D6 90 [AV.list 8 (l.map F4.cs),AV.int m] (AV.agg (Bd6 l m.toNat).cs):=by
 obtain⟨n,rfl⟩:∃n:Nat,m=(n:Int):=⟨m.toNat,by omega⟩;have hnl:n≤l.length:=by omega
 have hl6:=hk.len;refine B0 func90 rfl ntmps90 rfl ?_;refine R3 ?_;intro b4;refine R3 ?_;refine n1 167 7 rfl rfl rfl rfl L2 ?_;intro v5;refine R6 ?_;refine A1 rfl (AG5 rfl L3 Q1 zA zA qz7 (by (try simp only[A8]);omega)) ?_;refine R4 ?_;refine K5 [(4,_),(12,_),(13,_)] _ (fun (i:Nat) (v:Value)=>i≤n) (fun i v=>[.arr v 167 7 ((AM2 (l.take i)).map N5.cs)]) (fun i v=>[(5,AV.is v),(14,AV.int i)]) (fun i v=>n-i) (0) (v5) ?_ (I1 B7 A6) ?_
 ·exact E4 _
 intro i v hinv;refine zK ?_ ?_
 ·intro h15 k15;have hlt:i<n:=(by simp only[A8,H0]at k15;omega);obtain⟨x,hx⟩:=B2 (show i<l.length by omega);have hx2:(l.take ((n:Int)).toNat)[i]? =some x:=(by rw[o5,AD6 hlt];exact hx);have hrl:(AM2 (l.take i)).length≤60:=qz206;refine R5 ?_;refine A1 rfl (C2 rfl L3 Q1 zA zA hx2 qz1) ?_;refine R2 ?_;intro b7;refine R5 ?_;refine A1 rfl (BC4 _ 0 rfl zA rfl AK0 y9 rfl rfl) ?_;refine R1 ?_;refine I0 (by':=88) 1 rfl rfl rfl rfl AN6 type167 rfl rfl rfl rfl rfl rfl zA zA rfl (by simp only[A8,X4];omega) ?_;intro v22_1;refine R6 ?_;refine H5 i v (i+1) (v22_1) ?_ ?_ (Le.trans (B4 [0,0] rfl) (D5 1 (by (rw[Cd3 hx,Y3];rfl)) A6))
  ·exact qz7
  omega
 intro h15 k15;have hge:i=n:=(by simp only[A8,H0]at k15;omega);subst hge;have hrl:(AM2 (l.take i)).length≤60:=qz206;have hrs:∀r∈AM2 (l.take i),r.size≤1100:=fun r hr=>(by obtain⟨e,he,rfl⟩:=n6.1 hr;exact hk.recs e (AZ9 he));refine R4 ?_;refine Bv3 (AI8 [0] 25 rfl rfl (K2 (C3 (i:=0) rfl) G3) Af6) ?_;refine zF rfl call160 (ofF_spec (AM2 (l.take i)) hrl hrs) G6 ?_;refine R4 ?_;intro b8;refine R9 ?_;exact D1 rfl (F5 (ys:=_) 1 rfl rfl S5 K8 rfl)
theorem AO0 (g:C1)(gg:GG g):D6 370 [AV.agg g.cs] (AV.bool (AX0 g)):=by
 refine B0 func370 rfl ntmps370 rfl ?_;refine R3 ?_;intro b1;refine zK ?_ ?_
 ·intro h8 k8;have he:AX0 g=false:=(by unfold AX0;rw[AC1 qz7];rfl);rw[he];exact zq40
 intro h8 k8;have hl0:0≤g.Lead:=qz7;have hin:=BQ3 gg hl0;obtain⟨L,hL⟩:∃L,M3 g g.Lead=L:=⟨_,rfl⟩;have hxl:=Z3 hin;have hgr:=gg.reps _ (AE6 hin);rw[hL]at hxl hgr;have hsr:=hgr.sure;have hl6:=hgr.len;obtain⟨n,hn⟩:∃n:Nat,L.Sure=(n:Int):=⟨L.Sure.toNat,by omega⟩;have he:AX0 g=(L.Log.take n).any (fun e=>e.Term==g.Term):=(by unfold AX0;rw[W6 hl0,hL,hn];rfl);rw[he];refine R7 ?_;refine zq148 ?_;intro b3;refine R4 ?_;rw[show L.cs=[AV.bool L.Up,AV.list 8 (L.Log.map F4.cs),AV.int (n:Int)] by rw[←hn];rfl];refine R5 ?_;refine A1 rfl (AG5 rfl L3 Q1 zA zA qz7 (by (try simp only[A8]);omega)) ?_;refine R4 ?_;refine E8 [(1,_),(19,_),(20,_)] _ (fun (i:Nat)=>i≤(L.Log.take n).length∧((L.Log.take n).any fun e=>e.Term==g.Term)=(((L.Log.take n).drop i).any fun e=>e.Term==g.Term)) (fun i=>[]) (fun i=>[(21,AV.int i)]) (fun i=>(L.Log.take n).length-i) (0) ?_ (G2 A6) ?_
 ·exact zq4
 intro i hinv;refine zC ?_ ?_
 ·intro h22;have hlt:i<(L.Log.take n).length:=BU5;have h9:(L.Log.take n).length≤L.Log.length:=CG0;obtain⟨x,hx⟩:=B2 hlt;refine R5 ?_;refine zq96 ?_;refine R2 ?_;intro b5;refine zC ?_ ?_
  ·intro h29;rw[hinv.2,J8 hx,Ak6,h29];exact zq40
  intro h29;refine R5 ?_;refine F1 i (i+1) ?_ ?_ (T4 1 A6)
  ·exact⟨by omega,by rw[hinv.2,J8 hx,Ak6,h29];rfl⟩
  omega
 intro h22;have hge:(L.Log.take n).length≤i:=BU5;rw[hinv.2,r9 hge];exact zq105
theorem Bs1 (g:C1)(gg:GG g):D6 23 [AV.agg g.cs] (AV.agg (Ai8 g).cs):=by
 have h0l:0<g.Reps.length∧g.Reps.length≤5:=by have:=gg.many;omega
 refine B0 func23 rfl ntmps23 rfl ?_;refine R3 ?_;intro b1;refine R1 ?_;intro b2;refine R14 ?_;refine K5 [(1,_),(2,_),(7,_),(8,_)] _ (fun (i:Nat) (p:Nat)=>i≤g.Reps.length∧g.Reps[p]? =some ((g.Reps.take i).foldl (fun b r=>if b.Sure<r.Sure then r else b) (M3 g 0))) (fun i p=>[]) (fun i p=>[(3,AV.int p),(9,AV.int i)]) (fun i p=>g.Reps.length-i) (0) (0) ?_ (G2 A6) ?_
 ·exact⟨E4 _,Z3 (g:=g) (r:=0) ⟨Int.le_refl _,by omega⟩⟩
 intro i p hinv;refine zK ?_ ?_
 ·intro h10 k10;have hlt:i<g.Reps.length:=BF6;obtain⟨x,hx⟩:=B2 hlt;refine R6 ?_;refine zq116 ?_;refine R2 ?_;intro b5;refine R10 ?_;refine B3 rfl rfl (C2 rfl D4 F9 zA zA hinv.2 qz1) ?_;refine zK ?_ ?_
  ·intro h22 k22;refine R8 ?_;refine H5 i p (i+1) (i) ?_ ?_ (T4 1 A6)
   ·exact⟨by omega,by rw[BW6 hx,D9 k22];exact hx⟩
   omega
  intro h22 k22;refine R5 ?_;refine H5 i p (i+1) (p) ?_ ?_ (T4 1 A6)
  ·exact⟨by omega,by rw[BW6 hx,D0 k22];exact hinv.2⟩
  omega
 intro h10 k10;have hge:g.Reps.length≤i:=BF6;have hb:g.Reps[p]? =some (AY8 g):=(by have h9:=hinv.2;rw[S7 hge]at h9;exact h9);have hgr:=gg.reps _ (Bw4 gg);refine R2 ?_;refine J3 13 E3 E3 rfl ?_;refine R3 ?_;refine B3 rfl rfl (C2 rfl D4 F9 zA zA hb qz1) ?_;refine R5 ?_;refine B3 rfl rfl (C2 rfl D4 F9 zA zA hb qz1) ?_;refine R2 ?_;refine B3 rfl rfl (zG rfl call90 (BL5 (AY8 g).Log (AY8 g).Sure hgr.sure (CU9 hgr)) F3) ?_;refine R4 ?_;exact D1 rfl (F5 (ys:=_) 0 rfl rfl S5 K8 rfl)
def B5.ocs (t:B5)(y:Value×Value):List AV:=[AV.list 4 (t.Ops.map TOp.cs),AV.is y.1,AV.is y.2,AV.int t.Begin,AV.int t.End,AV.bool t.Yes,AV.int t.Time,AV.bool t.Dead,AV.bool t.Put,AV.bool t.Stopped]
def B5.ow (t:B5)(y:Value×Value):List Go.AV.Own:=[.arr y.1 58 3 (t.Got.map H7.cs),.arr y.2 3 1 (t.Terms.map fun n=>[AV.int n])]
def C5.ocs (l:C5)(y:Value):List AV:=[AV.int l.Node,strs l.Keys,AV.is y,AV.int l.Time,AV.int l.Begin,AV.int l.End]
def C5.ow (l:C5)(y:Value):List Go.AV.Own:=[.arr y 58 3 (l.Got.map H7.cs)]
@[reducible] def nwZ (w:C7)(T:List (Value×Value))(L:List Value):List Go.AV.Own:=nin B5.ow w.Txns T++nin C5.ow w.Looks L
theorem B5.lcM {own:List Go.AV.Own}(t:B5)(y:Value×Value)(h:∀o∈B5.ow t y,o∈own):AJ1 own (B5.ocs t y) t.cs:=D7 H9 (D7 (K2 (h _ (C3 (i:=0) rfl)) G3) (D7 (K2 (h _ (C3 (i:=1) rfl)) G3) AP0))
theorem C5.lcM {own:List Go.AV.Own}(l:C5)(y:Value)(h:∀o∈C5.ow l y,o∈own):AJ1 own (C5.ocs l y) l.cs:=D7 H9 (D7 H9 (D7 (K2 (h _ (C3 (i:=0) rfl)) G3) AP0))
structure WX where
  cl:Value
  gr:Value
  lo:Value
  pr:Value
  tx:Value
  lk:Value
def WB (b:Nat)(w:C7)(X:WX)(T:List (Value×Value))(L:List Value):List Go.AV.Own:=
  .box b 97 [AV.int w.Now,AV.int w.Count,AV.is X.cl,strs w.Cuts,AV.is X.gr,AV.is X.lo,AV.is X.pr,AV.is X.tx,AV.is X.lk]::
  .arr X.cl 102 1 (w.Clocks.map S6.cs):: .arr X.gr 38 3 (w.Groups.map C1.cs):: .arr X.lo 105 1 (w.Locks.map fun l=>[AV.list 3 (l.map G9.cs)])::
  .arr X.pr 3 1 (w.Promised.map fun n=>[AV.int n]):: .arr X.tx 94 10 (L4 B5.ocs w.Txns T):: .arr X.lk 55 6 (L4 C5.ocs w.Looks L)::
  (nin B5.ow w.Txns T++nin C5.ow w.Looks L)
theorem Aw7 (b:Nat)(w:C7)(X:WX)(T:List (Value×Value))(L:List Value)(g:Int)(gi:C1)(hx:w.Groups[g.toNat]? =some gi)(h0:0≤g)(gg:GG gi)(hl:0≤gi.Lead):M0 372 [AV.ptr b 0,AV.int g] (WB b w X T L) (fun _:Unit=>True) (fun _=>WB b w X T L) (fun _=>AV.agg (q7 gi).cs):=by
 have hin:=BQ3 gg hl;have hgr:=gg.reps _ (AE6 hin);have hgl:=(G1.1 hx).1;refine C8 func372 rfl ntmps372 rfl ?_;refine R3 ?_;intro b4;refine zq212 ?_;intro b5 _;refine R9 ?_;refine zF rfl call90 (BL5 (M3 gi gi.Lead).Log (M3 gi gi.Lead).Sure hgr.sure (CU9 hgr)) F3 ?_;exact zq182
theorem Ag2 (b:Nat)(w:C7)(X:WX)(T:List (Value×Value))(L:List Value)(g:Int)(gi:C1)(hx:w.Groups[g.toNat]? =some gi)(h0:0≤g)(gg:GG gi)(hl:0≤gi.Lead):M0 122 [AV.ptr b 0,AV.int g] (WB b w X T L) (fun _:Unit=>True) (fun _=>WB b w X T L) (fun _=>AV.agg (Z8 gi).cs):=by
 have hin:=BQ3 gg hl;have hgr:=gg.reps _ (AE6 hin);have hgl:=(G1.1 hx).1;have hf:D6 90 [AV.list 8 ((M3 gi gi.Lead).Log.map F4.cs),AV.int ((((M3 gi gi.Lead).Log.map F4.cs).length:Nat):Int)] (AV.agg (Z8 gi).cs):=by rw[A8];exact BL5 _ _ ⟨by omega,by omega⟩ (CU9 hgr)
 refine C8 func122 rfl ntmps122 rfl ?_;refine R3 ?_;intro b4;refine zq212 ?_;intro b5 _;refine R10 ?_;refine zF rfl call90 (hf) F3 ?_;exact zq182
theorem BW7 (b:Nat)(w:C7)(X:WX)(T:List (Value×Value))(L:List Value)(node:Int)(c:S6)(hx:w.Clocks[node.toNat]? =some c)(h0:0≤node)(hc:AA2 c=true)(hn:o0 w.Now=true):M0 123 [AV.ptr b 0,AV.int node] (WB b w X T L) (fun _:Unit=>True) (fun _=>WB b w X T L) (fun _=>AV.agg (AB3 c w.Now).cs):=by
 have hcl:=(G1.1 hx).1;refine C8 func123 rfl ntmps123 rfl ?_;refine R3 ?_;intro b4;refine R2 ?_;refine J3 14 E3 E3 rfl ?_;refine R6 ?_;refine B3 rfl rfl (I4 2 rfl J0 u6 zA rfl zA qz7 AE8) ?_;refine B3 rfl rfl (r5 2 rfl zA rfl isAgg102 u6 qz5 E5) ?_;refine R5 ?_;refine B3 rfl rfl (zG rfl call194 (De6 c w.Now hc hn) F3) ?_;refine R4 ?_;exact zq188
theorem BL6 (b:Nat)(w:C7)(X:WX)(T:List (Value×Value))(L:List Value)(g:Int)(gi:C1)(c:S6)(hx:w.Groups[g.toNat]? =some gi)(h0:0≤g∧g≤3)(hl:0≤gi.Lead∧gi.Lead≤5)(hcx:w.Clocks[(3*g+gi.Lead).toNat]? =some c)(hc:AA2 c=true)(hn:o0 w.Now=true):M0 416 [AV.ptr b 0,AV.int g] (WB b w X T L) (fun _:Unit=>True) (fun _=>WB b w X T L) (fun _=>AV.agg (AB3 c w.Now).cs):=by
  have hgl:=(G1.1 hx).1;refine C8 func416 rfl ntmps416 rfl ?_;refine R3 ?_;intro b4;refine R5 ?_;refine A1 rfl (Ad0 rfl L1 zA qz1) ?_;refine R6 ?_;refine A1 rfl (I4 3 rfl F8 C6 zA rfl zA qz7 AE8) ?_;refine A1 rfl (O1 3 rfl Y7 rfl E9 zA rfl rfl qz5) ?_;refine A1 rfl (Q6 3 rfl zA rfl O3 qz5 rfl) ?_;refine R1 ?_;refine A1 rfl (AA5 [1,1,1,1,1,1,1] 1 (nwZ w T L) ([]) rfl call123 rfl rfl (r8) (BW7 b w X T L (3*g+gi.Lead) c hcx qz7 hc hn) F3) ?_;refine R3 ?_;exact zq188
theorem Cx0 (b:Nat)(w:C7)(X:WX)(T:List (Value×Value))(L:List Value)(g t:Int)(k:Str)(write:Bool)(gi:C1)(hx:w.Groups[g.toNat]? =some gi)(h0:0≤g)(gg:GG gi)(hl:0≤gi.Lead):∃r:Bool,M0 417 [AV.ptr b 0,AV.int g,AV.int t,AV.str k,AV.bool write] (WB b w X T L) (fun _:Unit=>True) (fun _=>WB b w X T L) (fun _=>AV.bool r):=by
 obtain⟨f,hf⟩:∃f:E0→Bool,f=fun h=>(h.Txn !=t)&&(AW6 h.Writes k||(write&&BT8 h.Reads k)):=⟨_,rfl⟩;refine⟨[q7 gi,Z8 gi].any fun s=>s.Held.any f,?_⟩;have hsl:∀s∈[q7 gi,Z8 gi],s.Held.length≤12:=fun s hs=>by
  rcases T6.1 hs with rfl|hs
  ·exact(At4 gg hl).hlen
  rw[i6.1 hs];exact(AS6 gg hl).hlen
 refine C8 func417 rfl ntmps417 rfl ?_;refine R9 ?_;refine A1 rfl (AA5 [0,0,0,0,0,0,0] 0 (nwZ w T L) ([]) rfl call372 rfl rfl (r8) (Aw7 b w X T L g gi hx h0 gg hl) F3) ?_;refine R2 ?_;refine A1 rfl (AA5 [0,0,0,0,0,0,0] 0 (nwZ w T L) ([]) rfl call122 rfl rfl (r8) (Ag2 b w X T L g gi hx h0 gg hl) F3) ?_;refine R5 ?_;refine E8 [(2,_),(3,_),(4,_),(21,_),(22,_)] _ (fun (i:Nat)=>i≤2∧([q7 gi,Z8 gi].any fun s=>s.Held.any f)=(([q7 gi,Z8 gi].drop i).any fun s=>s.Held.any f)) (fun i=>[]) (fun i=>[(23,AV.int i)]) (fun i=>2-i) (0) ?_ (G2 A6) ?_
 ·exact zq4
 intro i hinv;have hinv0:=hinv;refine zK ?_ ?_
 ·intro h24 k24;have hlt:i<2:=(by simp only[X4]at k24;omega);obtain⟨s,hs⟩:=B2 (show i<[q7 gi,Z8 gi].length from hlt);have hs12:=hsl s (C3 hs);have hs2:([q7 gi,Z8 gi].map E1.cs)[i]? =some s.cs:=S2 hs;refine R5 ?_;refine A1 rfl (AX5 rfl j9 K8 zA zA qz7 (by rw[o5];exact hs2)) ?_;refine R2 ?_;intro b12;refine R10 ?_;refine E8 [(2,_),(3,_),(4,_),(12,_),(21,_),(22,_),(23,_),(24,_),(25,_),(26,_),(27,_),(28,_),(29,_)] _ (fun (j:Nat)=>j≤s.Held.length∧s.Held.any f=(s.Held.drop j).any f) (fun j=>[]) (fun j=>[(30,AV.int j)]) (fun j=>s.Held.length-j) (0) ?_ (G2 A6) ?_
  ·exact zq4
  intro j hinv;have hinv1:=hinv;refine zK ?_ ?_
  ·intro h31 k31;have hlt1:j<s.Held.length:=(by simpa using h31);obtain⟨y,hh⟩:=B2 hlt1;refine R5 ?_;refine A1 rfl (C2 rfl H1 O0 zA zA hh qz1) ?_;refine R2 ?_;intro b14;refine R12 ?_;refine L5 rfl (fun hc=>zG rfl call358 (BO2 _ _) zS) ?_;refine R6 ?_;refine AF2 rfl rfl (Y9 rfl rfl rfl) (fun hc=>zG rfl call359 (CK1 _ _) zS) ?_;refine zC ?_ ?_
   ·intro h52;have hyes:([q7 gi,Z8 gi].any fun s=>s.Held.any f)=true:=List.any_eq_true.2 ⟨s,C3 hs,List.any_eq_true.2 ⟨y,C3 hh,by rw[hf];exact h52⟩⟩;rw[hyes];refine R5 ?_;exact H8 [2,2,2,2,2,2,2] 2 (nwZ w T L) () (trivial) rfl B7 Q4
   intro h52;refine R5 ?_;refine F1 j (j+1) ?_ ?_ (T4 1 A6)
   ·exact⟨by omega,by rw[hinv1.2,J8 hh,Ak6,show f y=false by (rw[hf];exact h52)];rfl⟩
   omega
  intro h31 k31;have hge1:s.Held.length≤j:=(by simpa using h31);refine R5 ?_;refine F1 i (i+1) ?_ ?_ (T4 1 A6)
  ·exact⟨by omega,by rw[hinv0.2,J8 hs,Ak6,hinv1.2,r9 hge1];rfl⟩
  omega
 intro h24 k24;have hge:2≤i:=(by simp only[X4]at k24;omega);rw[hinv.2,r9 (show [q7 gi,Z8 gi].length≤i from hge)];refine R6 ?_;exact H8 [0,0,0,0,0,0,0] 0 (nwZ w T L) () (trivial) rfl B7 Q4
theorem CA1 (b:Nat)(w:C7)(X:WX)(T:List (Value×Value))(L:List Value)(g:Int)(gi:C1)(hx:w.Groups[g.toNat]? =some gi)(h0:0≤g)(hg:WG gi):M0 192 [AV.ptr b 0,AV.int g] (WB b w X T L) (fun v:C1=>WG v∧(gi=nG2→v=nG5)) (fun v=>WB b (Z7 w g.toNat v) X T L) (fun _=>AV.tup []):=by
 have hgl:=(G1.1 hx).1;refine C8 func192 rfl ntmps192 rfl ?_;refine R6 ?_;refine zL [2] ?_;refine K5 [(0,_),(1,_)] _ (fun (r:Nat) (v:C1)=>r≤3∧WG v∧(gi=nG2→v=spN r)) (fun r v=>[.arr X.gr 38 3 ((w.Groups.set g.toNat v).map C1.cs)]) (fun r v=>[(4,AV.int r)]) (fun r v=>3-r) (0) (gi) ?_ (I1 (by (rw[BS8 hx];rfl)) A6) ?_
 ·exact⟨E4 _,hg,fun h=>h⟩
 intro r v hinv;have hvs:=BE1 hinv.2.1.good;refine zK ?_ ?_
 ·intro h10 k10;refine R11 ?_;refine zq73 ?_;refine R1 ?_;refine zF rfl call250 (DE8 v r qz7) F3 ?_;refine R4 ?_;intro b5;refine zC ?_ ?_
  ·intro h26;refine J3 8 E3 E3 rfl ?_;refine R7 ?_;refine zq52 ?_;refine R6 ?_;refine H5 r v (r+1) ((AA1 v r).1) ?_ ?_ (Le.trans (B4 [0,0] rfl) (D5 1 Ck5 A6))
   ·exact⟨by omega,wg_copy hinv.2.1 h26,fun h=>by rw[hinv.2.2 h]at h26⊢;exact DM0 qz7 h26⟩
   omega
  intro h26;refine R6 ?_;refine H5 r v (r+1) (v) ?_ ?_ (Le.trans (B4 [0,0] rfl) (D5 1 Ck5 A6))
  ·exact⟨by omega,hinv.2.1,fun h=>by have h9:=hinv.2.2 h;rw[h9]at h26;rw[h9];exact spN_no qz7 (by simpa using h26)⟩
  omega
 intro h10 k10;refine R9 ?_;refine zq73 ?_;refine zF rfl call251 (Cu8 v qz7) G6 ?_;refine R4 ?_;intro b7;refine zC ?_ ?_
 ·intro h47;refine J3 8 E3 E3 rfl ?_;refine R7 ?_;refine zq52 ?_;refine R1 ?_;exact H8 [2,2,1,1,1,1,1] 1 (nwZ w T L) (((AK4 v).1)) (qz123) rfl (by first|rfl|(unfold WB Z7;dsimp only;rw[←AF4,BH9];rfl)) Ba0
 intro h47;refine R1 ?_;exact H8 [2,2,1,1,1,1,1] 1 (nwZ w T L) (v) (qz123) rfl (by first|rfl|(unfold WB Z7;dsimp only;rw[←AF4,BH9];rfl)) Ba0
theorem Az8 (b:Nat)(w:C7)(X:WX)(T:List (Value×Value))(L:List Value)(g:Int)(gi:C1)(hx:w.Groups[g.toNat]? =some gi)(h0:0≤g)(hg:WG gi):M0 192 [AV.ptr b 0,AV.int g] (WB b w X T L) (fun v:C1=>WG v) (fun v=>WB b (Z7 w g.toNat v) X T L) (fun _=>AV.tup []):=
  CE2 (fun _ h=>h.1) (CA1 b w X T L g gi hx h0 hg)
theorem Cx1 (b:Nat)(w:C7)(X:WX)(T:List (Value×Value))(L:List Value)(g:Int)(r:N5)(gi:C1)(hx:w.Groups[g.toNat]? =some gi)(h0:0≤g)(hg:WG gi)(hr:r.size≤1000)(hk:Ai7 r):M0 120 [AV.ptr b 0,AV.int g,AV.agg r.cs] (WB b w X T L) (fun v:C1×Bool=>WG v.1∧(gi=nG1∧r=BU1→v=(nG5,true))) (fun v=>WB b (Z7 w g.toNat v.1) X T L) (fun v=>AV.bool v.2):=by
 have hgl:=(G1.1 hx).1;have hvs:=BE1 hg.good;refine C8 func120 rfl ntmps120 rfl ?_;refine R3 ?_;intro b5;refine R3 ?_;refine Z9 _ 15 (.pure 0 (.pure 1 (.pure 2 (.pure 3 (.pure 4 (.pure 5 (.pure 6 (.pure 7 (.pure 8 (.pure 9 (.pure 10 (.pure 11 (.pure 12 (.e1 13 (.e1 14 .nil))))))))))))))) E3 E3 rfl (U8 8) ?_;refine R6 ?_;refine N8 rfl rfl rfl (fun ext=>I4 3 rfl F8 C6 (A0 rfl) rfl (A0 rfl) qz7 AF7) ?_;refine N8 rfl rfl rfl (fun ext=>r5 3 rfl (A0 rfl) rfl K6 C6 qz5 E5) ?_;refine R1 ?_;refine N8 rfl rfl rfl (fun ext=>A4 rfl call191 rfl (Ch3 gi r qz7 qz7) F3) ?_;refine R4 ?_;refine F7 rfl rfl rfl (AC6 8<|S4 rfl zeroValue38 rfl) (fun a _=>qz3) ?_;intro b7 _;refine R1 ?_;refine AZ3 rfl rfl rfl (AB5 8 rfl rfl (A0 rfl) (A0 rfl) (e6 _) rfl C6 rfl) (fun a _=>qz3) ?_;intro _ _;refine R9 ?_;refine A3 ?_ ?_
 ·intro h23;have hnx:¬(gi=nG1∧r=BU1):=(fun h9=>by rw[h9.1,h9.2]at h23;exact absurd h23 E5);rw[show (AE2 gi r).2=false by simpa using h23]at*;refine R5 ?_;exact H8 [1,1,1,1,1,1,1] 2 (nwZ w T L) ((gi,false)) (qz187) rfl qz190 Q4
 intro h23;have hpo:(AE2 gi r).2=true:=Bu2;have hld:0≤gi.Lead:=Dc8 hpo;have hwp:=wg_put hg hld hk hpo;have hsp:=CA1 b (Z7 w g.toNat (AE2 gi r).1) X T L g (AE2 gi r).1 (B9 hx) h0 hwp;refine R2 ?_;refine J3 8 E3 E3 rfl ?_;refine R7 ?_;refine B3 rfl rfl (I4 3 rfl F8 C6 (A0 rfl) rfl (A0 rfl) qz7 AF7) ?_;refine R1 ?_;refine e8 3 rfl rfl rfl (A0 rfl) (A0 rfl) (e6 _) rfl C6 rfl AF7 ?_;refine R2 ?_;simp only[←AF4];refine R3 ?_;refine M2 [1,1,1,1,1,1,1] 2 7 (nwZ w T L) (fun zz=>nwZ w T L) rfl rfl rfl rfl call192 rfl rfl (hsp) F3 (fun a=>O4) ?_;intro x34 ok34;refine R6 ?_;exact H8 [0,0,0,0,0,0,0] 2 (nwZ w T L) ((x34,true)) (qz187) rfl qz190 Q4
theorem Aw8 (b:Nat)(w:C7)(X:WX)(T:List (Value×Value))(L:List Value)(g:Int)(r:N5)(gi:C1)(hx:w.Groups[g.toNat]? =some gi)(h0:0≤g)(hg:WG gi)(hr:r.size≤1000)(hk:Ai7 r):M0 120 [AV.ptr b 0,AV.int g,AV.agg r.cs] (WB b w X T L) (fun v:C1×Bool=>WG v.1) (fun v=>WB b (Z7 w g.toNat v.1) X T L) (fun v=>AV.bool v.2):=
  CE2 (fun _ h=>h.1) (Cx1 b w X T L g r gi hx h0 hg hr hk)
theorem agg_w {xs ys:List AV}(hl:xs.length=ys.length)(h:∀(i:Nat) (x y:AV),xs[i]? =some x→ys[i]? =some y→∀R v,x.den R v→y.den R v)(R:I7)(v:Value)(hv:(AV.agg xs).den R v):(AV.agg ys).den R v:=by
  obtain⟨vs,e,hl2,hd⟩:=hv;refine⟨vs,e,hl2.trans hl,fun i u y hu hy=> ?_⟩;have hi:i<xs.length:=by rw[hl];exact(G1.1 hy).1
  obtain⟨h1,h2⟩:=hd i u _ hu (Q5 hi);exact⟨h i _ y (Q5 hi) hy _ _ h1,h2⟩
theorem Ap7 {k t tm l:Int}{y:Bool}(R:I7)(v:Value)(h:(AV.agg [AV.int k,AV.int t,AV.int tm,AV.int l,AV.nils,AV.nils,AV.bool y]).den R v):(AV.agg (N5.cs ⟨k,t,tm,l,[],[],y⟩)).den R v:=by
  refine agg_w (xs:=[AV.int k,AV.int t,AV.int tm,AV.int l,AV.nils,AV.nils,AV.bool y]) (ys:=N5.cs ⟨k,t,tm,l,[],[],y⟩) rfl (fun i x z hx hz=> ?_) R v h;rcases i with _|_|_|_|_|_|_|i
  all_goals first
    |(injection hx with hx;injection hz with hz;subst hx;subst hz;first|exact fun _ _ h=>h|exact CX6)
    |(cases hx)
theorem third {node:Int}{n:Nat}(hn:0≤node∧node<3*(n:Int)){q m:Int}(hq:Int.tdiv node 3=q)(hm:Int.tmod node 3=m):0≤q∧q<n∧0≤m∧m<3∧node=3*q+m:=by
  rw[Int.tdiv_eq_ediv_of_nonneg hn.1]at hq;rw[Int.tmod_eq_emod_of_nonneg hn.1]at hm;omega
def Cm6 (w:C7)(q:Nat):C7:=Z7 (Aa6 (Aa5 (Z7 w q nG1) q []) q 0) q nG5
structure EN (w:C7)(node:Int):Prop where
  grp:w.Groups[(Int.tdiv node 3).toNat]? =some nG0
  rep:Int.tmod node 3=0
  now:w.Now=0
  clk:w.Clocks[node.toNat]? =some ⟨0⟩
theorem nG_floor :(⟨4,0,m5 1 (m5 ((Z8 nG1).Floor+1) ((AB3 ⟨0⟩ 0).High+10)),0,[],[],false⟩:N5)=BU1:=by decide
theorem De7 {w:C7}{node q m:Int}{gi:C1}{c:S6}{x:C1×Bool}(hq:Int.tdiv node 3=q)(hm:Int.tmod node 3=m)(hx:w.Groups[q.toNat]? =some gi)(hcx:w.Clocks[node.toNat]? =some c)(h:EN w node)
    (hp:(V8 gi m).1=nG1∧(⟨4,0,m5 1 (m5 ((Z8 (V8 gi m).1).Floor+1) ((AB3 c w.Now).High+10)),0,[],[],false⟩:N5)=BU1→x=(nG5,true)):
    (Z7 (Aa6 (Aa5 (Z7 w q.toNat (V8 gi m).1) q.toNat []) q.toNat 0) q.toNat x.1,true)=(Cm6 w q.toNat,true):=by
  have h1:=h.grp;have h2:=h.rep;have h3:=h.now;have h4:=h.clk;rw[hq,hx]at h1;injection h1 with h1
  rw[hm]at h2;rw[hcx]at h4;injection h4 with h4
  subst h1;subst h2;subst h4;have he:(V8 nG0 0).1=nG1:=by decide
  rw[he,h3]at hp;rw[hp ⟨rfl,nG_floor⟩,he];rfl
theorem CL5 (b:Nat)(w:C7)(X:WX)(T:List (Value×Value))(L:List Value)(node:Int)(hw:WI w)(hn:0≤node∧node<3*(w.Groups.length:Int)):M0 50 [AV.ptr b 0,AV.int node] (WB b w X T L) (fun v:C7×Bool=>(WI v.1∧WS w v.1∧v.1.Txns=w.Txns∧v.1.Looks=w.Looks)∧(EN w node→v=(Cm6 w (Int.tdiv node 3).toNat,true))) (fun v=>WB b v.1 X T L) (fun v=>AV.bool v.2):=by
 obtain⟨q,hq⟩:∃q:Int,Int.tdiv node 3=q:=⟨_,rfl⟩;obtain⟨m,hm⟩:∃m:Int,Int.tmod node 3=m:=⟨_,rfl⟩;obtain⟨h0,hql,hm0,hm3,hnq⟩:=third hn hq hm;obtain⟨gi,hx⟩:=B2 (show q.toNat<w.Groups.length by omega);have hgi:=hw.groups gi (C3 hx);have hvs:=BE1 hgi.good;have hng:=hw.n;have hgl:=(G1.1 hx).1;obtain⟨lo,hlx⟩:=B2 (show q.toNat<w.Locks.length by rw[hw.locks.1];omega);obtain⟨pr,hpx⟩:=B2 (show q.toNat<w.Promised.length by rw[hw.promised.1];omega);have hll:=(G1.1 hlx).1;have hpl:=(G1.1 hpx).1;obtain⟨c,hcx⟩:=B2 (show node.toNat<w.Clocks.length by rw[hw.clocks.1];omega);have hcg:AA2 c=true:=by
  have h9:=hw.clocks.2 c (C3 hcx);unfold AA2 within;rw[F0,H6,H6];exact h9
 have hnow:M.o0 w.Now=true:=by unfold M.o0 within;rw[F0,H6,H6];exact hw.now
 have hsp9: -1000000≤(AB3 c w.Now).High∧(AB3 c w.Now).High≤1000000:=by
  have h9:=hw.clocks.2 c (C3 hcx);have h8:=hw.now;show -1000000≤w.Now+c.Off+5∧w.Now+c.Off+5≤1000000
  omega
 have hwq:IntKind.i64.wrap q=q:=BR1 qz7;refine C8 func50 rfl ntmps50 rfl ?_;refine R7 ?_;refine A1 rfl (Cl7 rfl zA L1 qz1) ?_;refine R3 ?_;simp only[hq,hwq];refine R7 ?_;refine A1 rfl (I4 2 rfl F8 C6 zA rfl zA qz7 AF7) ?_;refine A1 rfl (r5 2 rfl zA rfl K6 C6 qz5 E5) ?_;refine R1 ?_;refine A1 rfl (BM8 rfl zA L1 qz1) ?_;simp only[hm];refine zF rfl call119 (Ch1 gi m qz7) F3 ?_;refine R4 ?_;intro b6;refine zC ?_ ?_
 ·intro h25;have hpo:(V8 gi m).2=false:=(by simpa using h25);have hen:¬EN w node:=(fun h=>by have h9:=h.grp;rw[hq,hx]at h9;injection h9 with h9;have h8:=h.rep;rw[hm]at h8;rw[h9,h8]at hpo;exact absurd hpo E5);refine R5 ?_;exact H8 [1,1,1,1,1,1,1] 1 (nwZ w T L) ((w,false)) (qz113) rfl B7 Q4
 intro h25;have hpo:(V8 gi m).2=true:=(by simpa using h25);have hwg:=wg_elect hgi hpo;have heg:=CI6 hpo;have hld:0≤(V8 gi m).1.Lead:=(by rw[heg.2.2.1];exact hm0);have hgg2:(w.Groups.set q.toNat (V8 gi m).1)[q.toNat]? =some (V8 gi m).1:=B9 hx;have h1:=AG9 hw (i:=q.toNat) hwg;have h2:=Cr0 h1.1 (i:=q.toNat) (l:=[]) ⟨E4 _,fun x hx=>(by cases hx)⟩;have h3:=DK6 h2.1 (i:=q.toNat) (p:=0) ⟨Int.le_refl 0,E5⟩;have hfk:=Ag2 b (Aa6 (Aa5 (Z7 w q.toNat (V8 gi m).1) q.toNat []) q.toNat 0) X T L q _ hgg2 h0 hwg.good hld;have hsk:=BW7 b (Aa6 (Aa5 (Z7 w q.toNat (V8 gi m).1) q.toNat []) q.toNat 0) X T L node c hcx hn.1 hcg hnow;have hfl:=(AS6 hwg.good hld).floor;have hpk:=Cx1 b (Aa6 (Aa5 (Z7 w q.toNat (V8 gi m).1) q.toNat []) q.toNat 0) X T L q ⟨4,0,m5 1 (m5 ((Z8 (V8 gi m).1).Floor+1) ((AB3 c w.Now).High+10)),0,[],[],false⟩ _ hgg2 h0 hwg (show (0:Nat)≤1000 from by decide) (fun w9 hw9=>by cases hw9);refine R2 ?_;refine J3 8 E3 E3 rfl ?_;refine R7 ?_;refine zq124 ?_;refine R9 ?_;refine A1 rfl (I4 4 rfl K1 i8 zA rfl zA qz7 AF7) ?_;refine e8 4 rfl rfl rfl zA (j0 (sz:=3)) (S8 _ _) rfl i8 rfl AF7 ?_;refine R9 ?_;refine A1 rfl (I4 5 rfl D3 E9 zA rfl zA qz7 AF7) ?_;refine e8 5 rfl rfl rfl zA L1 (X2 _ _) rfl E9 rfl AF7 ?_;refine R2 ?_;refine H3 (show _=Go.AV.Own.box b6 38 (V8 gi m).1.cs::WB b (Aa6 (Aa5 (Z7 w q.toNat (V8 gi m).1) q.toNat []) q.toNat 0) X T L from(by unfold WB Aa6 Aa5 Z7;dsimp only;rw[AF4,AF4,AF4];rfl)) ?_;refine R5 ?_;refine A1 rfl (AA5 [1,1,1,1,1,1,1] 1 (nwZ w T L) ([]) rfl call122 rfl rfl (r8) (hfk) F3) ?_;refine R2 ?_;refine A1 rfl (AA5 [1,1,1,1,1,1,1] 1 (nwZ w T L) ([]) rfl call123 rfl rfl (r8) (hsk) F3) ?_;refine zF rfl call121 (Ci0 (Z8 (V8 gi m).1) (AB3 c w.Now) qz7 qz7) F3 ?_;refine R1 ?_;refine M2 [1,1,1,1,1,1,1] 1 7 (nwZ w T L) (fun zz=>nwZ w T L) rfl rfl rfl rfl call120 rfl rfl (hpk) (A2 zA (A2 zA (A2 (AU6 zA Ap7) A9))) (fun a=>O4) ?_;intro x58 ok58;refine R6 ?_;exact H8 [0,0,0,0,0,0,0] 1 (nwZ w T L) ((Z7 (Aa6 (Aa5 (Z7 w q.toNat (V8 gi m).1) q.toNat []) q.toNat 0) q.toNat x58.1,true)) (qz113) rfl B7 Q4
theorem De8 (b:Nat)(w:C7)(X:WX)(T:List (Value×Value))(L:List Value)(node:Int)(hw:WI w)(hn:0≤node∧node<3*(w.Groups.length:Int)):M0 50 [AV.ptr b 0,AV.int node] (WB b w X T L) (fun v:C7×Bool=>WI v.1∧WS w v.1∧v.1.Txns=w.Txns∧v.1.Looks=w.Looks) (fun v=>WB b v.1 X T L) (fun v=>AV.bool v.2):=
  CE2 (fun _ h=>h.1) (CL5 b w X T L node hw hn)
theorem part_ok {l:List G9}(h:AY7 l)(t:Int)(of:Bool):AY7 (Af1 l t of):=by
  unfold Af1;exact⟨L7 (List.length_filter_le _ _) h.1,fun x hx=>h.2 x (List.mem_filter.1 hx).1⟩
theorem Bg0 {α:Type}{g:α→AV}:∀{v:List α},(v.map fun l=>[g l]).flatten=v.map g
  |[]=>rfl
  |x::v=>by rw[m4,Ak1,Bg0,m4];rfl
theorem flat1 {α:Type}{g:α→AV}{v:List α}{i:Nat}{x:α}(h:v[i]? =some x):(v.map fun l=>[g l]).flatten[((i:Int)).toNat*1]? =some (g x):=by
  rw[Bg0,o5,Nat.mul_one,a8,h];rfl
def Ab0 (w:C7)(v:List (List G9)):C7:={w with Locks:=v}
theorem Bi7 (b:Nat)(w:C7)(X:WX)(T:List (Value×Value))(L:List Value)(t:Int)(hw:WI w):M0 368 [AV.ptr b 0,AV.int t] (WB b w X T L) (fun v:List (List G9)=>v.length=w.Locks.length∧∀l∈v,AY7 l) (fun v=>WB b (Ab0 w v) X T L) (fun _=>AV.tup []):=by
 have hng:=hw.n;have hlk:=hw.locks;refine C8 func368 rfl ntmps368 rfl ?_;refine R11 ?_;refine zL [3] ?_;refine K5 [(0,_),(1,_),(10,_)] _ (fun (i:Nat) (v:List (List G9))=>i≤w.Locks.length∧v.length=w.Locks.length∧∀l∈v,AY7 l) (fun i v=>[.arr X.lo 105 1 (v.map fun l=>[AV.list 3 (l.map G9.cs)])]) (fun i v=>[(11,AV.int i)]) (fun i v=>w.Locks.length-i) (0) (w.Locks) ?_ (I1 B7 A6) ?_
 ·exact⟨E4 _,rfl,hlk.2⟩
 intro i v hinv;refine zK ?_ ?_
 ·intro h12 k12;have hlt:i<w.Locks.length:=Ax3;obtain⟨l,hlx⟩:=B2 (show i<v.length by rw[hinv.2.1];exact hlt);have hlo:=hinv.2.2 l (C3 hlx);have hl60:=hlo.1;refine R8 ?_;refine J3 17 E3 E3 rfl ?_;refine R12 ?_;refine B3 rfl rfl (I4 0 rfl K1 i8 zA rfl zA qz7 AF7) ?_;refine B3 rfl rfl (AC8 0 rfl zA rfl isAgg105 (flat1 (g:=fun l=>AV.list 3 (l.map G9.cs)) hlx)) ?_;refine R1 ?_;refine B3 rfl rfl (zG rfl call395 (DF4 l t false qz7) Cm9) ?_;refine B3 rfl rfl (I4 0 rfl K1 i8 zA rfl zA qz7 AF7) ?_;refine R1 ?_;refine e8 0 rfl rfl rfl zA zA (S8 _ _) rfl i8 rfl AF7 ?_;refine R5 ?_;refine H5 i v (i+1) (v.set i (Af1 l t false)) ?_ ?_ (Le.trans (B4 [0] rfl) (I1 (by (rw[AF4];rfl)) A6))
  ·exact⟨by omega,by rw[a9];exact hinv.2.1,An5 hinv.2.2 (part_ok hlo t false)⟩
  omega
 intro h12 k12;refine R1 ?_;exact H8 [1,1,1,0,0,0,0] 0 (nwZ w T L) (v) (hinv.2) rfl B7 Ba0
theorem AT7 {T X:Type}{ocs:T→X→List AV}{l:List T}{xs:List X}{i:Nat}{p p':T}{x:X}(hp:l[i]? =some p)(hx:xs[i]? =some x):L4 ocs (l.set i p') xs=(L4 ocs l xs).set i (ocs p' x):=by
  rw[←DO0 (p':=p') hp hx,AP6 hp hx];have ht:=AC9 (ocs:=ocs) hp hx;rw[List.set_append_right _ _ qz7,ht,Nat.sub_self,Ax7]
theorem Ao0 {T X:Type}{ow:T→X→List Go.AV.Own}:∀{l:List T} {xs:List X} {i:Nat} {p p':T},l[i]? =some p→(∀x,ow p' x=ow p x)→nin ow (l.set i p') xs=nin ow l xs
  |[],_,_,_,_,h,_=>by simp at h
  |q::l,[],i,_,_,h,_=>by cases i<;>rfl
  | q::l,y::xs,0,p,p',h,he=>by
    simp at h;subst h;show ow p' y++nin ow l xs=ow q y++nin ow l xs
    rw[he]
  | q::l,y::xs,i+1,p,p',h,he=>by
    show ow q y++nin ow (l.set i p') xs=ow q y++nin ow l xs
    rw[Ao0 (l:=l) Ag3 he]
def Bx0 (t:B5):B5:={t with Dead:=true}
def Bx1 (w:C7)(t:Int):C7:=match w.Txns[(t-1).toNat]? with
  |some x=>AO3 w (t-1).toNat (Bx0 x)
  |none=>w
theorem died_wi {w:C7}(hw:WI w)(t:Int):WF w (Bx1 w t):=by
  unfold Bx1;split
  · rename_i x hx
    have h:=hw.txns.2 x (C3 hx);have h2:=BJ4 hw (i:=(t-1).toNat) (t:=Bx0 x) ⟨h.terms,h.ops,h.got,h.span⟩;exact zq164
  ·exact WF.refl hw
theorem BH5 {w:C7}(hw:WI w){v:List (List G9)}(hv:v.length=w.Locks.length∧∀l∈v,AY7 l):WI (Ab0 w v)∧WS w (Ab0 w v):=
  ⟨⟨hw.n,hw.clocks,hw.cuts,⟨hv.1.trans hw.locks.1,hv.2⟩,hw.promised,hw.groups,hw.txns,hw.looks,hw.now,hw.count⟩,⟨rfl,rfl,rfl,rfl,rfl,rfl⟩⟩
theorem BH6 {w:C7}(hw:WI w){v:List (List G9)}(hv:v.length=w.Locks.length∧∀l∈v,AY7 l):WF w (Ab0 w v):=⟨(BH5 hw hv).1,(BH5 hw hv).2,rfl,rfl⟩
theorem BQ5 (b:Nat)(w:C7)(X:WX)(T:List (Value×Value))(L:List Value)(t:Int)(hw:WI w)(hT:T.length=w.Txns.length)(ht:1≤t∧t≤1000000):M0 392 [AV.ptr b 0,AV.int t] (WB b w X T L) (fun v:C7=>WF w v) (fun v=>WB b v X T L) (fun _=>AV.tup []):=by
 have hd:=died_wi hw t;have hfr:=Bi7 b (Bx1 w t) X T L t hd.wi;obtain⟨W',hW⟩:∃W':C7,Bx1 w t=W':=⟨_,rfl⟩;rw[hW]at hfr hd;refine C8 func392 rfl ntmps392 rfl ?_;refine zK ?_ ?_
 ·intro h11 k11;have hlt:(t-1).toNat<w.Txns.length:=(by simp only[i0 hT]at k11;omega);obtain⟨tx,htx⟩:=B2 hlt;obtain⟨y,hy⟩:=B2 (show (t-1).toNat<T.length by omega);have hW1:W'=AO3 w (t-1).toNat (Bx0 tx):=(by rw[←hW];unfold Bx1;rw[htx]);refine R8 ?_;refine A1 rfl (I4 5 rfl M4 U3 zA rfl zA qz7 (by rw[i0 hT];omega)) ?_;refine A1 rfl (O1 5 rfl M5 rfl j3 zA rfl rfl qz2) ?_;refine q9 5 rfl rfl rfl zA Ao8 (Ai9 _) rfl j3 qz2 rfl ?_;refine R1 ?_;refine H3 (show _=WB b W' X T L from qz148) ?_;refine zq43 ?_;intro x23 ok23;refine R1 ?_;exact zq143
 intro h11 k11;have hW1:W'=w:=(by rw[←hW];unfold Bx1;rw[AZ8 (by simp only[i0 hT]at k11;omega)]);refine R1 ?_;refine H3 (show _=WB b W' X T L from qz148) ?_;refine zq43 ?_;intro x23 ok23;refine R1 ?_;exact zq143
theorem Bs2 {α:Type}{g:α→AV}{v:List α}{k:Int}{x:α}(h:v[k.toNat]? =some x):(v.map fun l=>[g l]).flatten[k.toNat*1]? =some (g x):=by
  rw[Bg0,Nat.mul_one,a8,h];rfl
theorem AZ7 {w:C7}{T:List (Value×Value)}{L:List Value}{i:Nat}{tx:B5}{y:Value×Value}(hp:w.Txns[i]? =some tx)(hy:T[i]? =some y):(nwZ w T L).Perm (B5.ow tx y++(nin B5.ow (w.Txns.eraseIdx i) (T.eraseIdx i)++nin C5.ow w.Looks L)):=by
  rw[←o7];exact(Ad4 (ow:=B5.ow) hp hy).append_right _
theorem Cd4 (b:Nat)(w:C7)(X:WX)(T:List (Value×Value))(L:List Value)(g t:Int)(tx:B5)(y:Value×Value)(n:Int)(gi:C1)(htx:w.Txns[(t-1).toNat]? =some tx)(hy:T[(t-1).toNat]? =some y)(hT:T.length=w.Txns.length)(ht:1≤t∧t≤1000000)(hg0:0≤g)(hn:tx.Terms[g.toNat]? =some n)(hx:w.Groups[g.toNat]? =some gi):M0 407 [AV.ptr b 0,AV.int g,AV.int t] (WB b w X T L) (fun _:Unit=>True) (fun _=>WB b w X T L) (fun _=>AV.bool ((n !=0)&&(n !=gi.Term))):=by
  have htl:=(G1.1 htx).1;have hgl:=(G1.1 hx).1;have hnl:=(G1.1 hn).1;refine C8 func407 rfl ntmps407 rfl ?_;refine R5 ?_;refine zq12 ?_;refine R8 ?_;refine A1 rfl (I4 5 rfl M4 U3 zA rfl zA qz7 Ax4) ?_;refine A1 rfl (O1 5 rfl M5 rfl Ae3 zA rfl rfl qz2) ?_;refine A1 rfl (Q6 5 rfl zA rfl isAgg28 qz2 rfl) ?_;refine R1 ?_;refine A1 rfl (I4 8 rfl D3 E9 zA rfl zA qz7 Ax4) ?_;refine A1 rfl (AC8 8 rfl zA rfl O3 (Bs2 (g:=AV.int) hn)) ?_;refine R3 ?_;refine zq119 ?_;refine R11 ?_;refine L5 rfl (fun hc=>I4 2 rfl F8 C6 (A7 rfl hc) rfl (A7 rfl hc) qz7 Ax4) ?_;refine L5 rfl (fun hc=>O1 2 rfl Y7 rfl E9 (A7 rfl hc) rfl rfl qz5) ?_;refine L5 rfl (fun hc=>Q6 2 rfl (A7 rfl hc) rfl O3 qz5 rfl) ?_;refine R5 ?_;exact H8 [0,0,0,0,0,0,0] 0 (nwZ w T L) () (trivial) rfl B7 Q4
end Go.PQ
namespace Go.M
open Go.AV
theorem De9 (l:List Int)(n:Int):(AW9 l n).length≤l.length+1:=by
  induction l with
  |nil=>simp[AW9]
  | cons y l ih=>
    unfold AW9;split
    ·rw[J7,J7];omega
    ·split<;>simp
theorem Cd5 {n m:Int}:∀{l:List Int},m∈AW9 l n→m=n∨m∈l
  |[],h=>by unfold AW9 at h;exact .inl (i6.1 h)
  | x ::l,h=>by
    unfold AW9 at h;split at h
    · rcases T6.1 h with h|h
      ·exact .inr (h▸n4)
      · rcases Cd5 h with h|h
        ·exact .inl h
        ·exact .inr (U5 _ h)
    · split at h
      ·exact .inr h
      · rcases T6.1 h with h|h
        ·exact .inl h
        ·exact .inr h
theorem CL6 {m:Int}:∀{l:List G9} {a:List Int},m∈l.foldl (fun a y=>AW9 a y.Txn) a→m∈a∨∃y∈l,y.Txn=m
  |[],a,h=> .inl h
  | y ::l,a,h=>by
    rw[List.foldl_cons]at h;rcases CL6 h with h|⟨z,hz,e⟩
    · rcases Cd5 h with h|h
      ·exact .inr ⟨y,n4,h.symm⟩
      ·exact .inl h
    ·exact .inr ⟨z,U5 _ hz,e⟩
theorem ask_mem9 {l:List G9}{x:G9}(h:AY7 l):∀n∈(BB4 l [] x (AH5 l x)).2,1≤n∧n≤1000000:=fun n hn=>by
  have hw:n∈AH5 l x:=by
    unfold BB4 at hn;split at hn
    ·cases hn
    · split at hn
      ·cases hn
      ·exact hn
  unfold AH5 at hw;rcases CL6 hw with h1|⟨y,hy,e⟩
  ·cases h1
  ·rw[←e];exact(h.2 y (List.mem_filter.1 hy).1).1
theorem ask_len9 {l:List G9}{x:G9}:(BB4 l [] x (AH5 l x)).2.length≤l.length:=by
  have h:(AH5 l x).length≤l.length:=by
    have h1:∀(m:List G9) (a:List Int),(m.foldl (fun a y=>AW9 a y.Txn) a).length≤a.length+m.length:=fun m=>by
      induction m with
      |nil=>intro a;simp
      |cons y m ih=>intro a;rw[List.foldl_cons];have h2:=ih (AW9 a y.Txn);have h3:=De9 a y.Txn;rw[J7];omega
    have h2:=h1 (l.filter (As3 x)) [];have h3:=List.length_filter_le (As3 x) l;unfold AH5;rw[T5]at h2;omega
  unfold BB4;split
  ·exact E4 _
  · split
    ·exact E4 _
    ·exact h
theorem Cd6 {x z:G9}:∀{l:List G9},z∈AO6 l x→z=x∨∃y∈l,z.Key=y.Key∧z.Txn=y.Txn
  |[],h=>by unfold AO6 at h;exact .inl (i6.1 h)
  | y ::l,h=>by
    unfold AO6 at h;split at h
    · rcases T6.1 h with h|h
      ·exact .inr ⟨y,n4,by rw[h],by rw[h]⟩
      ·exact .inr ⟨z,U5 _ h,rfl,rfl⟩
    · rcases T6.1 h with h|h
      ·exact .inr ⟨y,n4,by rw[h],by rw[h]⟩
      · rcases Cd6 h with h|⟨q,hq,e⟩
        ·exact .inl h
        ·exact .inr ⟨q,U5 _ hq,e⟩
theorem take_ok9 {l:List G9}{x:G9}(h:AY7 l)(hx:(1≤x.Txn∧x.Txn≤1000000)∧x.Key.length≤64)(hl:(AO6 l x).length≤60):AY7 (AO6 l x):=by
  refine⟨hl,fun z hz=> ?_⟩;rcases Cd6 hz with e|⟨y,hy,e1,e2⟩
  ·rw[e];exact hx
  · have h9:=h.2 y hy
    refine⟨by rw[e2];exact h9.1,?_⟩;have h8:=h9.2;unfold G9.size at h8⊢;rw[e1];exact h8
theorem Df0 {x:G9}:∀{l:List G9},(AO6 l x).length≤l.length+1
  |[]=>by unfold AO6;exact K9 _
  | y::l=>by
    unfold AO6;split
    ·simp
    ·rw[J7,J7];have:=Df0 (x:=x) (l:=l);omega
theorem Ah6 {α:Type}{l:List α}{i:Nat}{x y:α}(h:l[i]? =some x):(l.set i y)[i]? =some y:=Ac3 (G1.1 h).1
theorem BO4 {T X:Type}{ocs:T→X→List AV}{l:List T}{xs:List X}{i:Nat}(h:l[i]? =none∨xs[i]? =none):(L4 ocs l xs)[i]? =none:=by
  unfold L4;rw[List.getElem?_zipWith];rcases h with h|h
  ·rw[h]
  ·rw[h];cases l[i]? <;>rfl
def AM3 (t:B5)(g:Nat)(n:Int):B5:={t with Terms:=t.Terms.set g n}
theorem wf_lock {w:C7}(hw:WI w){g:Nat}{l:List G9}(hl:AY7 l){i:Nat}{t:B5}(ht:w.Txns[i]? =some t)(n:Int):WF w (AO3 (Aa5 w g l) i (AM3 t g n)):=by
  have h1:=Cr0 hw (i:=g) hl;have h:=hw.txns.2 t (C3 ht);have h2:=BJ4 h1.1 (i:=i) (t:=AM3 t g n) ⟨by show (t.Terms.set g n).length=_;rw[a9];exact h.terms,h.ops,h.got,h.span⟩;exact⟨h2.1,h1.2.trans h2.2,rfl,rfl⟩
theorem Cd7 (s:Str): -999999≤(l5N s).1∧(l5N s).1≤999999:=by
  cases h:(l5N s).2 with
  |false=>rw[Cq7 s h];decide
  |true=>exact(Cq6 (s:=s) (n:=(l5N s).1) (by rw[←h])).2
theorem BZ8 {buf:List B1}{got:List H7}{k:Str}{n:Nat}(hb:∀w∈buf,w.size≤n)(hg:∀g∈got,g.size≤n):(C9 buf got k).1.length≤n:=by
  unfold C9;split
  · rename_i w hw
    have:=hb w (Ac4 hw);unfold B1.size at this;dsimp only;omega
  · split
    · rename_i g hg2
      have:=hg g (Ac4 hg2);unfold H7.size at this;dsimp only;omega
    ·exact E4 _
theorem Aw9 {α:Type}{p:α→Bool}{l:List α}{i:Nat}{x:α}(h:l[i]? =some x):(l.drop i).find? p=if p x=true then some x else (l.drop (i+1)).find? p:=by
  rw[J8 h];by_cases hp:p x=true
  ·rw[List.find?_cons_of_pos hp,D9 hp]
  ·rw[List.find?_cons_of_neg hp,D0 hp]
structure WD (l:List B1):Prop where
  keys:(O8 l).Sublist keyS
  vals:∀w∈l,AL7 w.Val w.Gone=true
theorem Cd8 {l:List Str}(h1:∀k∈l,z7 k=true)(h2:AP2 l):u4 l=true:=by
  unfold u4;rw[V7.2 h1,(An1 (p:=Op.bytesLess) (fun _ _ _=>U9)).2 h2];rfl
structure OI (n:Int)(l:List Ai4):Prop where
  good:∀o∈l,orderR o=true∧o.Txn<n
  nodup:(l.map Ai4.Txn).Nodup
theorem CV0 :V1 V0=true:=AH7.2 BQ2
theorem BE2 {s:E1}(h:V1 s=true):s.size≤15000:=by
  have g:=AH7.1 h;have h1:=BJ0 g.cells;have h2:=AE5 (f:=E0.size) (c:=400) (l:=s.Held) fun k hk=>AY4 (g.good k hk).1;have h3:=g.hlen;have h4:=g.tlen;show D2 B8.size s.Cells+D2 E0.size s.Held+s.Told.length≤15000
  omega
theorem Df1 {cuts ks:List Str}{p:Int}(h:p∈Ao6 cuts ks):0≤p∧p≤cuts.length:=by
  rcases((BH3 (cuts:=cuts) (ks:=ks) (a:=[]) List.Pairwise.nil).2 p).1 h with h|⟨k,_,e⟩
  ·cases h
  · have:=CD4 cuts k
    omega
theorem BS9 {α:Type}{f:α→Nat}{p:α→Bool}:∀{l:List α},D2 f (l.filter p)≤D2 f l
  |[]=>K9 _
  | x::l=>by
    have ih:=BS9 (f:=f) (p:=p) (l:=l)
    cases hp:p x with
    |true=>rw[List.filter_cons_of_pos hp,i4,i4];omega
    |false=>rw[List.filter_cons_of_neg (by rw[hp];decide),i4];omega
theorem BH7 {α:Type}{p:α→Bool}{l:List α}{i:Nat}{x:α}(h:l[i]? =some x):(l.take (i+1)).filter p=(l.take i).filter p++(if p x=true then [x]else []):=by
  rw[X3,h,List.filter_append]
  cases hp:p x<;>simp[hp]
def inS (cuts:List Str)(part:Int)(k:Str):Bool:=((r4 cuts k:Int)==part)
def i9 (got:List H7):List Str:=got.foldl (fun a g=>AE9 a g.Key) []
theorem Cd9 :∀{got:List H7} {a:List Str},AP2 a→AP2 (got.foldl (fun a g=>AE9 a g.Key) a)
  |[],a,h=>h
  |g::got,a,h=>by rw[List.foldl_cons];exact Cd9 (Av1 h).1
theorem Bs3 :∀{got:List H7} {a:List Str},(got.foldl (fun a g=>AE9 a g.Key) a).length≤a.length+got.length
  |[],a=>K9 _
  |g::got,a=>by rw[List.foldl_cons];have h1:=Bs3 (got:=got) (a:=AE9 a g.Key);have h2:=Bg8 g.Key a;rw[J7];omega
theorem CL7 (got:List H7):AP2 (i9 got):=Cd9 List.Pairwise.nil
theorem Az9 (got:List H7):(i9 got).length≤got.length:=by have:=Bs3 (got:=got) (a:=[]);simpa [i9]using this
theorem CL8 {got:List H7}{i:Nat}{g:H7}(h:got[i]? =some g):i9 (got.take (i+1))=AE9 (i9 (got.take i)) g.Key:=by
  unfold i9;rw[X3,h,List.foldl_append];rfl
def U7 (cuts:List Str)(t:B5):List Int:=Ao6 cuts (AI4 (i9 t.Got++O8 (P2 t.Ops t.Got).2.2))
def AK5 (t:B5):Bool:=((P2 t.Ops t.Got).1==3)&&decide (0<((i9 t.Got).length:Int)+((P2 t.Ops t.Got).2.2.length:Int))
structure CF9 (t:B5):Prop where
  len:t.Ops.length≤1000
  ops:∀o∈t.Ops,BE8 1000 o
  got:t.Got.length≤1000∧∀g∈t.Got,g.size≤1000
theorem CF7.sb {n:Nat}{c:Int}{t:B5}(h:CF7 n c t):CF9 t where
  len:=by have h9:=h.ops.1;unfold n8 at h9;rw[F0,H6]at h9;have:=h9.1;omega
  ops:=fun o ho=>by have h9:=AT6 h.ops.1 o ho;exact⟨L7 h9.size E5,h9.by',h9.key⟩
  got:=⟨L7 h.got.1 E5,fun g hg=>L7 (h.got.2 g hg) E5⟩
theorem BW8 {cuts:List Str}{t:B5}(h:AK5 t=true):∃p,(U7 cuts t)[0]? =some p:=by
  unfold AK5 at h;simp only[F0,H6]at h;have h0:=h.2;have hk:∃k,k∈AI4 (i9 t.Got++O8 (P2 t.Ops t.Got).2.2):=by
    cases hr:i9 t.Got with
    |cons k r=>exact⟨k,(Aw3 _ _).2 X1⟩
    | nil=>
      cases hw:(P2 t.Ops t.Got).2.2 with
      |cons w r=>exact⟨w.Key,(Aw3 _ _).2 (by simp[O8])⟩
      |nil=>rw[hr,hw]at h0;simp at h0
  obtain⟨k,hk⟩:=hk;have h1:=((BH3 (cuts:=cuts) (ks:=AI4 (i9 t.Got++O8 (P2 t.Ops t.Got).2.2)) (a:=[]) List.Pairwise.nil).2 (r4 cuts k)).2 (.inr ⟨k,hk,rfl⟩);exact B2 (List.length_pos_of_mem h1)
theorem BQ6 {cuts:List Str}{t:B5}{p:Int}(h:p∈U7 cuts t):0≤p∧p≤cuts.length:=Df1 h
def CP9 (t:B5)(x:H2)(c:Int):B5:={t with Yes:=x.Yes,Time:=x.Time,End:=c}
theorem wf_fin {w:C7}(hw:WI w){i:Nat}{t:B5}(ht:w.Txns[i]? =some t)(hq:0≤t.Begin∧t.Begin<w.Count)(x:H2):WF w (AO3 w i (CP9 t x w.Count)):=by
  have h:=hw.txns.2 t (C3 ht);have h2:=BJ4 hw (i:=i) (t:=CP9 t x w.Count) ⟨h.terms,h.ops,h.got,h.span.1,.inr ⟨hq.1,hq.2,Int.le_refl _⟩⟩;exact zq164
theorem Bi8 {w:C7}(hw:WI w){g:Int}{gi:C1}(h0:0≤g)(hx:w.Groups[g.toNat]? =some gi)(hl:0≤gi.Lead):∃c,w.Clocks[(3*g+gi.Lead).toNat]? =some c∧AA2 c=true∧gi.Lead<3∧g≤2∧M.o0 w.Now=true∧ -1000000≤(AB3 c w.Now).High∧(AB3 c w.Now).High≤1000000:=by
  have hgi:=hw.groups gi (C3 hx);have hli:=BQ3 hgi.good hl;have h3:=hgi.three;have hgl:=(G1.1 hx).1;have hng:=hw.n;obtain⟨c,hc⟩:=B2 (show (3*g+gi.Lead).toNat<w.Clocks.length by rw[hw.clocks.1];omega);have h9:=hw.clocks.2 c (C3 hc);have h8:=hw.now;refine⟨c,hc,?_,by omega,by omega,?_,?_,?_⟩
  ·unfold AA2 within;rw[F0,H6,H6];exact h9
  ·unfold M.o0 within;rw[F0,H6,H6];exact h8
  ·show -1000000≤w.Now+c.Off+5;omega
  ·show w.Now+c.Off+5≤1000000;omega
theorem CL9 {l:List B8}(h:o1 l=true)(k:Str)(t:Int):(cellAt l k t).1.length≤24:=by
  unfold cellAt;split
  · rename_i c hc
    obtain⟨_,_,h3⟩:=AF3 h;have hm:c∈l:=by unfold o6 at hc;exact Ac4 hc
    unfold AE3;split
    · rename_i v hv
      have h9:=(h3 c hm).2.2.2.2 v (List.mem_reverse.1 (Ac4 hv));unfold AV4 AL7 AV3 at h9;simp only[F0,H6]at h9;dsimp only;omega
    ·exact E4 _
  ·exact E4 _
def As7 (t:B5)(g:H7):B5:={t with Got:=t.Got++[g]}
theorem wf_got {w:C7}(hw:WI w){i:Nat}{t:B5}(ht:w.Txns[i]? =some t){g:H7}(hl:t.Got.length<8)(hg:g.size≤64):WF w (AO3 w i (As7 t g)):=by
  have h:=hw.txns.2 t (C3 ht);have h2:=BJ4 hw (i:=i) (t:=As7 t g) ⟨h.terms,h.ops,⟨by show (t.Got++[g]).length≤8;rw[I2];simp;omega,fun x hx=>by
    rcases y6.1 (show x∈t.Got++[g]from hx)with hx|hx
    ·exact h.got.2 x hx
    ·rw[i6.1 hx];exact hg⟩,h.span⟩
  exact zq164
theorem CM0 {w:C7}(hw:WI w)(k:Str):∃gi,w.Groups[((r4 w.Cuts k:Nat):Int).toNat]? =some gi∧(r4 w.Cuts k:Nat)<w.Groups.length:=by
  have h1:=CD4 w.Cuts k;have h2:=hw.cuts.1;obtain⟨gi,hg⟩:=B2 (show ((r4 w.Cuts k:Nat):Int).toNat<w.Groups.length by omega);exact⟨gi,hg,by omega⟩
def BC0 (t:B5):B5:={t with Put:=true}
theorem DM3 {w:C7}(hw:WI w){i:Nat}{t:B5}(ht:w.Txns[i]? =some t)(g:Nat)(n:Int):WI (AO3 w i (AM3 (BC0 t) g n))∧WS w (AO3 w i (AM3 (BC0 t) g n)):=by
  have h:=hw.txns.2 t (C3 ht);exact BJ4 hw (i:=i) (t:=AM3 (BC0 t) g n) ⟨by show (t.Terms.set g n).length=_;rw[a9];exact h.terms,h.ops,h.got,h.span⟩
theorem Ac0 {u v w:C7}(h:WF u v)(k:WI w∧WS v w):WI w∧WS u w:=⟨k.1,h.ws.trans k.2⟩
theorem BA0 {α:Type}{f:α→Nat}:∀{l:List α},l.length≤D2 f l
  |[]=>E4 _
  |x::l=>by rw[i4,J7];have:=BA0 (f:=f) (l:=l);omega
end Go.M
namespace Go.PQ
open Go.Proofs Go.Proofs.Tryz
open Go Go.AV Go.M
attribute [local irreducible] OpW OpA OpS AWP J6 L6 K3 OpE K4 I5 L0 Le Ev G4 L9 Y8 Int.tmod Int.tdiv IntKind.wrap T3
theorem Ce0 {T X:Type}{ocs:T→X→List AV}{l:List T}{xs:List X}{i:Nat}{p p':T}{x x':X}(hp:l[i]? =some p)(hx:xs[i]? =some x):L4 ocs (l.set i p') (xs.set i x')=(L4 ocs l xs).set i (ocs p' x'):=by
  apply List.ext_getElem?
  intro j;by_cases e:i=j
  · subst e
    rw[n9 (Ah6 hp) (Ah6 hx),Ah6 (n9 hp hx)]
  · rw[Ak5 e]
    cases h1:l[j]? with
    |none=>rw[BO4 (by rw[Ak5 e];exact .inl h1),BO4 (.inl h1)]
    | some q=>
      cases h2:xs[j]? with
      |none=>rw[BO4 (by rw[Ak5 e (l:=xs)];exact .inr h2),BO4 (.inr h2)]
      |some z=>rw[n9 (by rw[Ak5 e];exact h1) (by rw[Ak5 e];exact h2),n9 h1 h2]
theorem DU6 {T X:Type}{ocs:T→X→List AV}{l:List T}{xs:List X}{i:Nat}{p p':T}{x:X}(hp:l[i]? =some p)(hx:xs[i]? =some x)(he:ocs p' x=ocs p x):L4 ocs (l.set i p') xs=L4 ocs l xs:=by rw[AT7 hp hx,he,BS8 (n9 hp hx)]
theorem CM1 {w:C7}{T:List (Value×Value)}{L:List Value}{i:Nat}{p p':B5}{y y':Value×Value}(hp:w.Txns[i]? =some p)(hy:T[i]? =some y):(B5.ow p' y'++(nin B5.ow (w.Txns.eraseIdx i) (T.eraseIdx i)++nin C5.ow w.Looks L)).Perm (nin B5.ow (w.Txns.set i p') (T.set i y')++nin C5.ow w.Looks L):=by
  have h9:=Ad4 (ow:=B5.ow) (Ah6 (y:=p') hp) (Ah6 (y:=y') hy);rw[List.eraseIdx_set_eq,List.eraseIdx_set_eq]at h9;rw[←o7];exact h9.symm.append_right _
theorem Bs4 {w:C7}{T:List (Value×Value)}{L:List Value}{i:Nat}{p:C5}{y:Value}(hp:w.Looks[i]? =some p)(hy:L[i]? =some y):(nwZ w T L).Perm (C5.ow p y++(nin C5.ow (w.Looks.eraseIdx i) (L.eraseIdx i)++nin B5.ow w.Txns T)):=by
  refine List.perm_append_comm.trans ?_;rw[←o7];exact(Ad4 (ow:=C5.ow) hp hy).append_right _
theorem lk_put {w:C7}{T:List (Value×Value)}{L:List Value}{i:Nat}{p p':C5}{y y':Value}(hp:w.Looks[i]? =some p)(hy:L[i]? =some y):(C5.ow p' y'++(nin C5.ow (w.Looks.eraseIdx i) (L.eraseIdx i)++nin B5.ow w.Txns T)).Perm (nin B5.ow w.Txns T++nin C5.ow (w.Looks.set i p') (L.set i y')):=by
  have h9:=Ad4 (ow:=C5.ow) (Ah6 (y:=p') hp) (Ah6 (y:=y') hy);rw[List.eraseIdx_set_eq,List.eraseIdx_set_eq]at h9;rw[←o7];exact(h9.symm.append_right _).trans AQ0
theorem Cx2 (b:Nat)(w:C7)(X:WX)(T:List (Value×Value))(L:List Value)(g t:Int)(k:Str)(write:Bool)(gi:C1)(hw:WI w)(hT:T.length=w.Txns.length)(ht:1≤t∧(t-1).toNat<w.Txns.length)(h0:0≤g)(hx:w.Groups[g.toNat]? =some gi)(hl:0≤gi.Lead)(hk:k.length≤12):M0 408 [AV.ptr b 0,AV.int g,AV.int t,AV.str k,AV.bool write] (WB b w X T L) (fun v:C7×Bool=>WF w v.1) (fun v=>WB b v.1 X T L) (fun v=>AV.bool v.2):=by
 have htn:=hw.txns.1;have hgi:=hw.groups gi (C3 hx);have hgl:=(G1.1 hx).1;obtain⟨lo,hlx⟩:=B2 (show g.toNat<w.Locks.length by rw[hw.locks.1];omega);have hlo:=hw.locks.2 lo (C3 hlx);have hlo60:=hlo.1;have hll:=(G1.1 hlx).1;obtain⟨kr,hko⟩:=Cx0 b w X T L g t k write gi hx h0 hgi.good hl;obtain⟨W,hW⟩:∃W,(BB4 lo [] ⟨k,t,write⟩ (AH5 lo ⟨k,t,write⟩)).2=W:=⟨_,rfl⟩;obtain⟨cd,hcd⟩:∃cd,(BB4 lo [] ⟨k,t,write⟩ (AH5 lo ⟨k,t,write⟩)).1=cd:=⟨_,rfl⟩;have hwm:=ask_mem9 (x:=⟨k,t,write⟩) hlo;have hask:=Cv6 lo [] ⟨k,t,write⟩ qz7;rw[hcd,hW]at hask;have hWl:W.length≤60:=by rw[←hW];exact L7 (ask_len9 (x:=⟨k,t,write⟩)) hlo60
 rw[hW]at hwm;refine C8 func408 rfl ntmps408 rfl ?_;refine R12 ?_;refine A1 rfl (AA5 [0,0,0,0,0,0,0] 0 (nwZ w T L) ([]) rfl call417 rfl rfl (r8) (hko) (A2 zA BR0)) ?_;refine zC ?_ ?_
 ·intro h22;refine R5 ?_;exact H8 [0,0,0,0,0,0,0] 0 (nwZ w T L) ((w,false)) (qz41) rfl qz78 (O2 rfl (A5 rfl B7))
 intro h22;refine R8 ?_;intro b11;refine R10 ?_;refine B3 rfl rfl (I4 4 rfl K1 i8 zA rfl zA qz7 CQ5) ?_;refine B3 rfl rfl (AC8 4 rfl zA rfl isAgg105 (Bs2 (g:=fun l=>AV.list 3 (l.map G9.cs)) hlx)) ?_;refine R1 ?_;refine B3 rfl rfl (zG rfl call418 (hask) (A2 zA (A2 j0 G6))) ?_;refine zC ?_ ?_
 ·intro h41;have k41:=J9 h41;(try simp only[A8]at k41);refine R5 ?_;exact H8 [1,1,1,1,1,1,1] 1 (nwZ w T L) ((w,false)) (qz41) rfl qz78 (O2 rfl (A5 rfl B7))
 intro h41;have k41:=J4 h41;(try simp only[A8]at k41);refine R9 ?_;refine H3 qz131 ?_;refine zL [1,1,1,1,1,1,1] ?_;refine K5 [(0,_),(1,_),(2,_),(10,_),(11,_),(42,_),(43,_)] [] (fun (i:Nat) (v:C7)=>i≤W.length∧WF w v) (fun i v=>[.box b 97 [AV.int v.Now,AV.int v.Count,AV.is X.cl,strs v.Cuts,AV.is X.gr,AV.is X.lo,AV.is X.pr,AV.is X.tx,AV.is X.lk],.arr X.cl 102 1 (v.Clocks.map S6.cs),.arr X.gr 38 3 (v.Groups.map C1.cs),.arr X.lo 105 1 (v.Locks.map fun l=>[AV.list 3 (l.map G9.cs)]),.arr X.pr 3 1 (v.Promised.map fun n=>[AV.int n]),.arr X.tx 94 10 (L4 B5.ocs v.Txns T),.arr X.lk 55 6 (L4 C5.ocs v.Looks L),.box b11 175 (G9.mk k t write).cs]++(nwZ v T L)) (fun i v=>[(44,AV.int i)]) (fun i v=>W.length-i) (0) (w) ?_ (I1 (by (rw[T2];rfl)) A6) ?_
 ·exact⟨E4 _,WF.refl hw⟩
 intro i v hinv;refine H3 (T2 _) ?_;refine zK ?_ ?_
 ·intro h45 k45;have hlt:i<W.length:=(by simpa using h45);obtain⟨y,hy⟩:=B2 hlt;have hy1:=hwm y (C3 hy);have hTv:T.length=v.Txns.length:=hT.trans hinv.2.ws.txns.symm;refine R5 ?_;refine A1 rfl (C2 rfl D3 E9 zA zA hy qz1) ?_;refine R6 ?_;refine M2 [0,0,0,0,0,0,0] 1 7 (nwZ v T L) (fun zz=>nwZ zz T L) rfl rfl rfl rfl call392 rfl rfl (BQ5 b v X T L y hinv.2.wi hTv hy1) F3 (fun a=>O4) ?_;intro x50 ok50;refine R5 ?_;refine H5 i v (i+1) (x50) ?_ ?_ (I1 (Eq.trans B7 (T2 _).symm) A6)
  ·exact⟨by omega,hinv.2.trans ok50⟩
  omega
 intro h45 k45;have hv:=hinv.2;have hTv:T.length=v.Txns.length:=hT.trans hv.ws.txns.symm;obtain⟨tx,htx⟩:=B2 (show (t-1).toNat<v.Txns.length by rw[hv.ws.txns];exact ht.2);obtain⟨z,hz⟩:=B2 (show (t-1).toNat<T.length by omega);obtain⟨n,hn⟩:=B2 (show g.toNat<tx.Terms.length by rw[(hv.wi.txns.2 tx (C3 htx)).terms,hv.gr];exact hgl);have hnl:=(G1.1 hn).1;obtain⟨lv,hlx⟩:=B2 (show g.toNat<v.Locks.length by rw[hv.wi.locks.1,hv.gr];exact hgl);have hll:=(G1.1 hlx).1;have hlvo:=hv.wi.locks.2 lv (C3 hlx);have hlv60:=hlvo.1;have hx:v.Groups[g.toNat]? =some gi:=(by rw[hv.gr];exact hx);have hgl:=(G1.1 hx).1;refine R9 ?_;refine B3 rfl rfl (I4 3 rfl K1 i8 zA rfl zA qz7 CQ5) ?_;refine B3 rfl rfl (AC8 3 rfl zA rfl isAgg105 (Bs2 (g:=fun l=>AV.list 3 (l.map G9.cs)) hlx)) ?_;refine R1 ?_;refine B3 rfl rfl (zG rfl call419 (Ch4 lv ⟨k,t,write⟩ qz7) F3) ?_;refine zK ?_ ?_
 ·intro h64 k64;refine R5 ?_;exact H8 [0,0,0,0,0,0,0] 1 (nwZ v T L) ((v,false)) (qz41) rfl qz78 (O2 rfl (A5 rfl B7))
 intro h64 k64;refine R10 ?_;refine A1 rfl (I4 3 rfl K1 i8 zA rfl zA qz7 CQ5) ?_;refine e8 3 rfl rfl rfl zA zA (S8 _ _) rfl i8 rfl AF7 ?_;refine R2 ?_;refine H3 Ac9 ?_;refine AWP.le (U1 8 (t:=([Go.AV.Own.arr z.1 58 3 (tx.Got.map H7.cs),Go.AV.Own.arr z.2 3 1 (tx.Terms.map fun n=>[AV.int n])])++(nin B5.ow (v.Txns.eraseIdx (t-1).toNat) (T.eraseIdx (t-1).toNat)++nin C5.ow v.Looks L)) (AZ7 htx hz)) ?_;refine J3 21 E3 E3 rfl ?_;refine R7 ?_;refine B3 rfl rfl (I4 5 rfl M4 U3 zA rfl zA qz7 CQ5) ?_;refine B3 rfl rfl (O1 5 rfl M5 rfl Ae3 zA rfl rfl qz90) ?_;refine B3 rfl rfl (Q6 5 rfl zA rfl isAgg28 qz90 rfl) ?_;refine R7 ?_;refine B3 rfl rfl (I4 2 rfl F8 C6 zA rfl zA qz7 CQ5) ?_;refine B3 rfl rfl (O1 2 rfl Y7 rfl E9 zA rfl rfl qz5) ?_;refine B3 rfl rfl (Q6 2 rfl zA rfl O3 qz5 rfl) ?_;refine B3 rfl rfl (I4 9 rfl D3 E9 zA rfl zA qz7 CQ5) ?_;refine R1 ?_;refine e8 9 rfl rfl rfl zA zA (X2 _ _) rfl E9 rfl AF7 ?_;refine R2 ?_;refine H3 Ac9 ?_;refine zL [0,0,0,0,0,0,0,0,0,0] ?_;refine AWP.le (U1 8 (t:=nin B5.ow (v.Txns.set (t-1).toNat (AM3 tx g.toNat gi.Term)) T++nin C5.ow v.Looks L) ((by have h9:=CM1 (w:=v) (L:=L) (p':=AM3 tx g.toNat gi.Term) (y':=z) htx hz;rw[BS8 hz]at h9;unfold B5.ow AM3 at h9⊢;dsimp only at h9;rw[AF4]at h9;exact h9))) ?_;refine R4 ?_;exact H8 [0,0,0,0,0,0,0] 1 (nin B5.ow (v.Txns.set (t-1).toNat (AM3 tx g.toNat gi.Term)) T++nin C5.ow v.Looks L) ((AO3 (Aa5 v g.toNat (AO6 lv ⟨k,t,write⟩)) (t-1).toNat (AM3 tx g.toNat gi.Term),true)) (qz41) rfl qz78 (O2 rfl (A5 rfl B7))
end Go.PQ
namespace Go.PQ
open Go.Proofs
open Go Go.AV Go.M
attribute [local irreducible] OpW OpA OpS AWP J6 L6 K3 OpE K4 I5 L0 Le Ev G4 L9 Y8 Int.tmod IntKind.wrap T3
theorem AQ8 (l:List B1)(w:B1)(hl:l.length≤4194303)(ha:adj X6 l=true):D6 226 [AV.list 3 (l.map B1.cs),AV.agg w.cs] (AV.list 3 ((ins l w).map B1.cs)):=by
  rw[←DY4 ha];exact J5 (DS5 l w hl) fun v _=>K2 (i6.2 rfl) G3
end Go.PQ
namespace Go.PQ
open Go.Proofs Go.Proofs.Tryz
open Go Go.AV Go.M
attribute [local irreducible] OpW OpA OpS AWP J6 L6 K3 OpE K4 I5 L0 Le Ev G4 L9 Y8 Int.tmod Int.tdiv IntKind.wrap T3
theorem Bl8 (buf:List B1)(got:List H7)(k:Str):D6 224 [AV.list 3 (buf.map B1.cs),AV.list 3 (got.map H7.cs),AV.str k] (AV.tup [AV.str (C9 buf got k).1,AV.bool (C9 buf got k).2.1,AV.bool (C9 buf got k).2.2]):=by
 refine B0 func224 rfl ntmps224 rfl ?_;refine Y0 (t:=0) rfl fun hlb=> ?_;try simp only[A8]at hlb
 refine Y0 (t:=1) rfl fun hlg=> ?_;try simp only[A8]at hlg
 refine zq185 ?_;refine R11 ?_;refine E8 [(1,_),(2,_),(13,_),(14,_)] _ (fun (i:Nat)=>i≤buf.length∧buf.find? (fun w=>w.Key==k)=(buf.drop i).find? (fun w=>w.Key==k)) (fun i=>[]) (fun i=>[(15,AV.int i)]) (fun i=>buf.length-i) (0) ?_ (G2 A6) ?_
 ·exact zq4
 intro i hinv;refine zK ?_ ?_
 ·intro h16 k16;have hlt:i<buf.length:=BM3;obtain⟨x,hx⟩:=B2 hlt;refine zq62 ?_;intro b10;refine zC ?_ ?_
  ·intro h22;have he:C9 buf got k=(x.Val,!x.Gone,true):=(by unfold C9;rw[hinv.2,Aw9 hx,D9 h22]);rw[he];refine R12 ?_;exact zq190
  intro h22;refine R5 ?_;refine F1 i (i+1) ?_ ?_ (T4 1 A6)
  ·exact⟨by omega,by rw[hinv.2,Aw9 hx,D0 (by rw[h22];decide)]⟩
  omega
 intro h16 k16;have hge:buf.length≤i:=BM3;have hnb:buf.find? (fun w=>w.Key==k)=none:=BV0;refine R9 ?_;refine E8 [(2,_),(29,_),(30,_)] _ (fun (j:Nat)=>j≤got.length∧got.find? (fun g=>g.Key==k)=(got.drop j).find? (fun g=>g.Key==k)) (fun j=>[]) (fun j=>[(31,AV.int j)]) (fun j=>got.length-j) (0) ?_ (G2 A6) ?_
 ·exact zq4
 intro j hinv;refine zK ?_ ?_
 ·intro h32 k32;have hlt1:j<got.length:=(by simpa using h32);obtain⟨y,hy⟩:=B2 hlt1;refine R5 ?_;refine A1 rfl (C2 rfl N1 W7 zA zA hy qz1) ?_;refine R2 ?_;intro b12;refine zC ?_ ?_
  ·intro h38;have he:C9 buf got k=(y.Val,y.There,true):=(by unfold C9;rw[hnb,hinv.2,Aw9 hy,D9 h38]);rw[he];refine R11 ?_;exact zq190
  intro h38;refine R5 ?_;refine F1 j (j+1) ?_ ?_ (T4 1 A6)
  ·exact⟨by omega,by rw[hinv.2,Aw9 hy,D0 (by rw[h38];decide)]⟩
  omega
 intro h32 k32;have hge1:got.length≤j:=(by simpa using h32);have he:C9 buf got k=([],false,false):=(by unfold C9;rw[hnb,hinv.2,r9 hge1];rfl);rw[he];refine R3 ?_;refine zq13 ?_;refine R4 ?_;exact zq190
theorem Bs5 (o:TOp)(val:Str)(there:Bool)(hv:val.length≤1048576)(hb: -1000000≤o.By∧o.By≤1000000):D6 225 [AV.agg o.cs,AV.str val,AV.bool there] (AV.bool (w8 o val there)):=by
 have hr:=Cd7 val;refine B0 func225 rfl ntmps225 rfl ?_;refine R3 ?_;intro b3;refine R5 ?_;refine zF rfl call227 (BZ6 val hv) G6 ?_;refine zC ?_ ?_
 ·intro h16;have k16:=J9 h16;(try simp only[A8]at k16);have he:w8 o val there=(if there=true then !(l5N val).2|| !within ((l5N val).1+o.By) (-999999) 999999 else false):=(by unfold w8;rw[D9 k16]);rw[he];refine zC ?_ ?_
  ·intro h19;rw[D0 (by rw[show there=false by simpa using h19];decide)];exact zq40
  intro h19;rw[D9 (show there=true by simpa using h19)];refine R10 ?_;refine S0 rfl (fun hc=>zG rfl call87 (T7 _ _ _) (A2 (A7 rfl hc) AT1)) ?_;exact zq40
 intro h16;have k16:=J4 h16;(try simp only[A8]at k16);refine zC ?_ ?_
 ·intro h30;have k30:=J9 h30;(try simp only[A8]at k30);have he:w8 o val there=((!there|| !(l5N val).2)||decide ((l5N val).1<o.By)):=(by unfold w8;rw[D0 k16,D9 k30]);rw[he];refine R17 ?_;exact zq3
 intro h30;have k30:=J4 h30;(try simp only[A8]at k30);refine zC ?_ ?_
 ·intro h44;have k44:=J9 h44;(try simp only[A8]at k44);have he:w8 o val there=there:=(by unfold w8;rw[D0 k16,D0 k30,D9 k44]);rw[he];exact zq105
 intro h44;have k44:=J4 h44;(try simp only[A8]at k44);refine zC ?_ ?_
 ·intro h47;have k47:=J9 h47;(try simp only[A8]at k47);have he:w8 o val there=(!there||(val !=o.Val)):=(by unfold w8;rw[D0 k16,D0 k30,D0 k44,D9 k47]);rw[he];refine R13 ?_;exact zq3
 intro h47;have k47:=J4 h47;(try simp only[A8]at k47);have he:w8 o val there=false:=(by unfold w8;rw[D0 k16,D0 k30,D0 k44,D0 k47]);rw[he];exact zq105
theorem BA1 (n:Int)(h: -999999≤n∧n≤999999):D6 228 [AV.int n] (AV.str (AA9 n)):=by
 refine B0 func228 rfl ntmps228 rfl ?_;refine zq185 ?_;refine zK ?_ ?_
 ·intro h4 k4;obtain⟨m,hm⟩:∃m:Nat,n= -(m:Int):=⟨n.natAbs,by omega⟩;subst hm;have hdl:=BD6 (k:=6) (n:=m) qz7 E5;have hneg:IntKind.i64.wrap (0- -(m:Int))=(m:Int):=by (rw[show 0- -(m:Int)=m by omega];exact BR1 qz7)
  rw[Ay7 qz7];refine R3 ?_;refine A1 rfl (w_neg rfl zA) ?_;rw[hneg];refine zF rfl call287 (CL0 m qz7) G6 ?_;refine A1 rfl (w_cat rfl (O9 (l:=[45]) rfl) zA qz219) ?_;exact zq218
 intro h4 k4;obtain⟨m,hm⟩:∃m:Nat,n=(m:Int):=⟨n.toNat,by omega⟩;subst hm;rw[BD7];refine R4 ?_;refine zF rfl call287 (CL0 m qz7) G6 ?_;exact zq218
theorem DG7 (l:List TOp)(got:List H7)(hl:l.length≤1000)(ho:∀o∈l,BE8 1000 o)(hgot:∀g∈got,g.size≤1000):D6 161 [AV.list 4 (l.map TOp.cs),AV.list 3 (got.map H7.cs)] (AV.tup [AV.int (P2 l got).1,AV.str (P2 l got).2.1,AV.list 3 ((P2 l got).2.2.map B1.cs)]):=by
 refine B0 func161 rfl ntmps161 rfl ?_;refine zq171 ?_;refine R3 ?_;refine zq55 ?_;refine R9 ?_;refine K5 [(1,_),(15,_),(16,_)] _ (fun (i:Nat) (buf:List B1)=>i≤l.length∧P2 l got=m2 got buf (l.drop i)∧adj X6 buf=true∧(∀w∈buf,w.size≤1000)∧buf.length≤i) (fun i buf=>[]) (fun i buf=>[(7,AV.list 3 (buf.map B1.cs)),(17,AV.int i)]) (fun i buf=>l.length-i) (0) ([]) ?_ (G2 A6) ?_
 ·exact⟨E4 _,rfl,rfl,fun w hw=>absurd hw List.not_mem_nil,K9 _⟩
 intro i buf hinv;refine zK ?_ ?_
 ·intro h18 k18;have hlt:i<l.length:=(by simpa using h18);obtain⟨x,hx⟩:=B2 hlt;have hso:=ho x (C3 hx);have hsv:=BZ8 (k:=x.Key) hinv.2.2.2.1 hgot;refine zq168 ?_;intro b9;refine R8 ?_;refine zF rfl call224 (Bl8 buf got x.Key) AD5 ?_;refine zC ?_ ?_
  ·intro h41;have he:P2 l got=(1,x.Key,[]):=qz192;rw[he];refine R6 ?_;refine B3 rfl rfl (G7 rfl (j0 (sz:=3))) ?_;refine R2 ?_;exact zq190
  intro h41;refine R7 ?_;refine zF rfl call225 (Bs5 x _ _ qz7 (by have h9:=hso.by';omega)) (A2 (A0 rfl) (A2 (A0 rfl) (A2 (A0 rfl) A9))) ?_;refine zC ?_ ?_
  ·intro h47;have he:P2 l got=(2,[],[]):=qz152;rw[he];refine zq171 ?_;refine R2 ?_;exact zq190
  intro h47;have hgv:w8 x (C9 buf got x.Key).1 (C9 buf got x.Key).2.1=false:=h47;have hnx:P2 l got=m2 got (V9 x (C9 buf got x.Key).1 (C9 buf got x.Key).2.1 buf) (l.drop (i+1)):=qz133;refine zC ?_ ?_
  ·intro h50;have k50:=J9 h50;(try simp only[A8]at k50);have hop:V9 x (C9 buf got x.Key).1 (C9 buf got x.Key).2.1 buf=ins buf ⟨x.Key,x.Val,false⟩:=(by unfold V9;rw[D9 k50]);refine R7 ?_;refine zF rfl call226 (AQ8 buf ⟨x.Key,x.Val,false⟩ qz7 hinv.2.2.1) F3 ?_;refine R6 ?_;refine H5 i buf (i+1) (V9 x (C9 buf got x.Key).1 (C9 buf got x.Key).2.1 buf) ?_ ?_ (T4 1 ⟨BF5,rfl,rfl,rfl,rfl,trivial⟩)
   ·exact⟨by omega,hnx,AG6 hinv.2.2.1,AG8 hso.size E5 hso.by' (.inl hso.key) hgv hinv.2.2.2.1,by have h9:=AG7 (o:=x) (v:=(C9 buf got x.Key).1) (t:=(C9 buf got x.Key).2.1) (buf:=buf);omega⟩
   omega
  intro h50;have k50:=J4 h50;(try simp only[A8]at k50);refine zC ?_ ?_
  ·intro h59;have k59:=J9 h59;(try simp only[A8]at k59);have hop:V9 x (C9 buf got x.Key).1 (C9 buf got x.Key).2.1 buf=ins buf ⟨x.Key,[],true⟩:=(by unfold V9;rw[D0 k50,D9 k59]);refine R5 ?_;refine zF rfl call226 (AQ8 buf ⟨x.Key,[],true⟩ qz7 hinv.2.2.1) F3 ?_;refine R6 ?_;refine H5 i buf (i+1) (V9 x (C9 buf got x.Key).1 (C9 buf got x.Key).2.1 buf) ?_ ?_ (T4 1 ⟨BF5,rfl,rfl,rfl,rfl,trivial⟩)
   ·exact⟨by omega,hnx,AG6 hinv.2.2.1,AG8 hso.size E5 hso.by' (.inl hso.key) hgv hinv.2.2.2.1,by have h9:=AG7 (o:=x) (v:=(C9 buf got x.Key).1) (t:=(C9 buf got x.Key).2.1) (buf:=buf);omega⟩
   omega
  intro h59;have k59:=J4 h59;(try simp only[A8]at k59);refine zC ?_ ?_
  ·intro h66;have k66:=J9 h66;(try simp only[A8]at k66);have har:=Ay8 k66 hso.by' hgv;refine R3 ?_;refine zF rfl call227 (BZ6 _ qz7) (A2 (A0 rfl) A9) ?_;refine zC ?_ ?_
   ·intro h74;have hth:(C9 buf got x.Key).2.1=false:=(by simpa using h74);have hadd:BT9 x (C9 buf got x.Key).1 (C9 buf got x.Key).2.1=0+x.By:=Cj8;rw[hadd]at har;have hop:V9 x (C9 buf got x.Key).1 (C9 buf got x.Key).2.1 buf=ins buf ⟨x.Key,AA9 (0+x.By),false⟩:=Ck8;refine R11 ?_;refine zq26 ?_;refine H5 i buf (i+1) (V9 x (C9 buf got x.Key).1 (C9 buf got x.Key).2.1 buf) ?_ ?_ (T4 1 ⟨BF5,rfl,rfl,rfl,rfl,trivial⟩)
    ·exact⟨by omega,hnx,AG6 hinv.2.2.1,AG8 hso.size E5 hso.by' (.inl hso.key) hgv hinv.2.2.2.1,by have h9:=AG7 (o:=x) (v:=(C9 buf got x.Key).1) (t:=(C9 buf got x.Key).2.1) (buf:=buf);omega⟩
    omega
   intro h74;have hth:(C9 buf got x.Key).2.1=true:=(by simpa using h74);have hadd:BT9 x (C9 buf got x.Key).1 (C9 buf got x.Key).2.1=(l5N (C9 buf got x.Key).1).1+x.By:=Cj8;rw[hadd]at har;have hop:V9 x (C9 buf got x.Key).1 (C9 buf got x.Key).2.1 buf=ins buf ⟨x.Key,AA9 ((l5N (C9 buf got x.Key).1).1+x.By),false⟩:=Ck8;refine R9 ?_;refine zq26 ?_;refine H5 i buf (i+1) (V9 x (C9 buf got x.Key).1 (C9 buf got x.Key).2.1 buf) ?_ ?_ (T4 1 ⟨BF5,rfl,rfl,rfl,rfl,trivial⟩)
   ·exact⟨by omega,hnx,AG6 hinv.2.2.1,AG8 hso.size E5 hso.by' (.inl hso.key) hgv hinv.2.2.2.1,by have h9:=AG7 (o:=x) (v:=(C9 buf got x.Key).1) (t:=(C9 buf got x.Key).2.1) (buf:=buf);omega⟩
   omega
  intro h66;have k66:=J4 h66;(try simp only[A8]at k66);have hop:V9 x (C9 buf got x.Key).1 (C9 buf got x.Key).2.1 buf=buf:=(by unfold V9;rw[D0 k50,D0 k59,D0 k66]);refine R5 ?_;refine H5 i buf (i+1) (V9 x (C9 buf got x.Key).1 (C9 buf got x.Key).2.1 buf) ?_ ?_ (T4 1 ⟨BF5,rfl,rfl,rfl,rfl,trivial⟩)
  ·exact⟨by omega,hnx,AG6 hinv.2.2.1,AG8 hso.size E5 hso.by' (.inl hso.key) hgv hinv.2.2.2.1,by have h9:=AG7 (o:=x) (v:=(C9 buf got x.Key).1) (t:=(C9 buf got x.Key).2.1) (buf:=buf);omega⟩
  omega
 intro h18 k18;have hge:l.length≤i:=(by simpa using h18);have he:P2 l got=(3,[],buf):=(by rw[hinv.2.1,r9 hge];rfl);rw[he];refine R5 ?_;refine zq13 ?_;refine R3 ?_;exact zq190
theorem CA2 (l:List TOp)(v:Value)(got:List H7)(hl:l.length≤1000)(ho:∀o∈l,BE8 1000 o)(hgot:∀g∈got,g.size≤1000):M0 161 [AV.list 4 (l.map TOp.cs),AV.is v] [.arr v 58 3 (got.map H7.cs)] (fun _:Unit=>True) (fun _=>[.arr v 58 3 (got.map H7.cs)]) (fun _=>AV.tup [AV.int (P2 l got).1,AV.str (P2 l got).2.1,AV.list 3 ((P2 l got).2.2.map B1.cs)]):=by
 refine C8 func161 rfl ntmps161 rfl ?_;refine zq171 ?_;refine R3 ?_;refine zq55 ?_;refine R9 ?_;refine K5 [(1,_),(15,_),(16,_)] _ (fun (i:Nat) (buf:List B1)=>i≤l.length∧P2 l got=m2 got buf (l.drop i)∧adj X6 buf=true∧(∀w∈buf,w.size≤1000)∧buf.length≤i) (fun i buf=>[]) (fun i buf=>[(7,AV.list 3 (buf.map B1.cs)),(17,AV.int i)]) (fun i buf=>l.length-i) (0) ([]) ?_ (G2 A6) ?_
 ·exact⟨E4 _,rfl,rfl,fun w hw=>absurd hw List.not_mem_nil,K9 _⟩
 intro i buf hinv;refine zK ?_ ?_
 ·intro h18 k18;have hlt:i<l.length:=(by simpa using h18);obtain⟨x,hx⟩:=B2 hlt;have hso:=ho x (C3 hx);have hsv:=BZ8 (k:=x.Key) hinv.2.2.2.1 hgot;refine zq168 ?_;intro b9;refine R8 ?_;refine A1 rfl (n2 rfl call224 rfl (Bl8 buf got x.Key) (Ab3 (I8 (AI7 _) (I8 (T9 _) (I8 (T9 _) W9)))) (N7 (evb zA) (N7 (BQ1 1 zA rfl) Ax6))) ?_;refine zC ?_ ?_
  ·intro h41;have he:P2 l got=(1,x.Key,[]):=qz192;rw[he];refine R6 ?_;refine B3 rfl rfl (G7 rfl (j0 (sz:=3))) ?_;refine R2 ?_;exact I9 [1] () (trivial) rfl B7 (j6 rfl E5 AT2)
  intro h41;refine R7 ?_;refine zF rfl call225 (Bs5 x _ _ qz7 (by have h9:=hso.by';omega)) (A2 (A0 rfl) (A2 (A0 rfl) (A2 (A0 rfl) A9))) ?_;refine zC ?_ ?_
  ·intro h47;have he:P2 l got=(2,[],[]):=qz152;rw[he];refine zq171 ?_;refine R2 ?_;exact I9 [1] () (trivial) rfl B7 (j6 rfl E5 AT2)
  intro h47;have hgv:w8 x (C9 buf got x.Key).1 (C9 buf got x.Key).2.1=false:=h47;have hnx:P2 l got=m2 got (V9 x (C9 buf got x.Key).1 (C9 buf got x.Key).2.1 buf) (l.drop (i+1)):=qz133;refine zC ?_ ?_
  ·intro h50;have k50:=J9 h50;(try simp only[A8]at k50);have hop:V9 x (C9 buf got x.Key).1 (C9 buf got x.Key).2.1 buf=ins buf ⟨x.Key,x.Val,false⟩:=(by unfold V9;rw[D9 k50]);refine R7 ?_;refine zF rfl call226 (AQ8 buf ⟨x.Key,x.Val,false⟩ qz7 hinv.2.2.1) F3 ?_;refine R6 ?_;refine H5 i buf (i+1) (V9 x (C9 buf got x.Key).1 (C9 buf got x.Key).2.1 buf) ?_ ?_ (T4 1 ⟨BF5,rfl,rfl,rfl,rfl,trivial⟩)
   ·exact⟨by omega,hnx,AG6 hinv.2.2.1,AG8 hso.size E5 hso.by' (.inl hso.key) hgv hinv.2.2.2.1,by have h9:=AG7 (o:=x) (v:=(C9 buf got x.Key).1) (t:=(C9 buf got x.Key).2.1) (buf:=buf);omega⟩
   omega
  intro h50;have k50:=J4 h50;(try simp only[A8]at k50);refine zC ?_ ?_
  ·intro h59;have k59:=J9 h59;(try simp only[A8]at k59);have hop:V9 x (C9 buf got x.Key).1 (C9 buf got x.Key).2.1 buf=ins buf ⟨x.Key,[],true⟩:=(by unfold V9;rw[D0 k50,D9 k59]);refine R5 ?_;refine zF rfl call226 (AQ8 buf ⟨x.Key,[],true⟩ qz7 hinv.2.2.1) F3 ?_;refine R6 ?_;refine H5 i buf (i+1) (V9 x (C9 buf got x.Key).1 (C9 buf got x.Key).2.1 buf) ?_ ?_ (T4 1 ⟨BF5,rfl,rfl,rfl,rfl,trivial⟩)
   ·exact⟨by omega,hnx,AG6 hinv.2.2.1,AG8 hso.size E5 hso.by' (.inl hso.key) hgv hinv.2.2.2.1,by have h9:=AG7 (o:=x) (v:=(C9 buf got x.Key).1) (t:=(C9 buf got x.Key).2.1) (buf:=buf);omega⟩
   omega
  intro h59;have k59:=J4 h59;(try simp only[A8]at k59);refine zC ?_ ?_
  ·intro h66;have k66:=J9 h66;(try simp only[A8]at k66);have har:=Ay8 k66 hso.by' hgv;refine R3 ?_;refine zF rfl call227 (BZ6 _ qz7) (A2 (A0 rfl) A9) ?_;refine zC ?_ ?_
   ·intro h74;have hth:(C9 buf got x.Key).2.1=false:=(by simpa using h74);have hadd:BT9 x (C9 buf got x.Key).1 (C9 buf got x.Key).2.1=0+x.By:=Cj8;rw[hadd]at har;have hop:V9 x (C9 buf got x.Key).1 (C9 buf got x.Key).2.1 buf=ins buf ⟨x.Key,AA9 (0+x.By),false⟩:=Ck8;refine R11 ?_;refine zq26 ?_;refine H5 i buf (i+1) (V9 x (C9 buf got x.Key).1 (C9 buf got x.Key).2.1 buf) ?_ ?_ (T4 1 ⟨BF5,rfl,rfl,rfl,rfl,trivial⟩)
    ·exact⟨by omega,hnx,AG6 hinv.2.2.1,AG8 hso.size E5 hso.by' (.inl hso.key) hgv hinv.2.2.2.1,by have h9:=AG7 (o:=x) (v:=(C9 buf got x.Key).1) (t:=(C9 buf got x.Key).2.1) (buf:=buf);omega⟩
    omega
   intro h74;have hth:(C9 buf got x.Key).2.1=true:=(by simpa using h74);have hadd:BT9 x (C9 buf got x.Key).1 (C9 buf got x.Key).2.1=(l5N (C9 buf got x.Key).1).1+x.By:=Cj8;rw[hadd]at har;have hop:V9 x (C9 buf got x.Key).1 (C9 buf got x.Key).2.1 buf=ins buf ⟨x.Key,AA9 ((l5N (C9 buf got x.Key).1).1+x.By),false⟩:=Ck8;refine R9 ?_;refine zq26 ?_;refine H5 i buf (i+1) (V9 x (C9 buf got x.Key).1 (C9 buf got x.Key).2.1 buf) ?_ ?_ (T4 1 ⟨BF5,rfl,rfl,rfl,rfl,trivial⟩)
   ·exact⟨by omega,hnx,AG6 hinv.2.2.1,AG8 hso.size E5 hso.by' (.inl hso.key) hgv hinv.2.2.2.1,by have h9:=AG7 (o:=x) (v:=(C9 buf got x.Key).1) (t:=(C9 buf got x.Key).2.1) (buf:=buf);omega⟩
   omega
  intro h66;have k66:=J4 h66;(try simp only[A8]at k66);have hop:V9 x (C9 buf got x.Key).1 (C9 buf got x.Key).2.1 buf=buf:=(by unfold V9;rw[D0 k50,D0 k59,D0 k66]);refine R5 ?_;refine H5 i buf (i+1) (V9 x (C9 buf got x.Key).1 (C9 buf got x.Key).2.1 buf) ?_ ?_ (T4 1 ⟨BF5,rfl,rfl,rfl,rfl,trivial⟩)
  ·exact⟨by omega,hnx,AG6 hinv.2.2.1,AG8 hso.size E5 hso.by' (.inl hso.key) hgv hinv.2.2.2.1,by have h9:=AG7 (o:=x) (v:=(C9 buf got x.Key).1) (t:=(C9 buf got x.Key).2.1) (buf:=buf);omega⟩
  omega
 intro h18 k18;have hge:l.length≤i:=(by simpa using h18);have he:P2 l got=(3,[],buf):=(by rw[hinv.2.1,r9 hge];rfl);rw[he];refine R5 ?_;refine zq13 ?_;refine R3 ?_;exact I9 [0] () (trivial) rfl B7 (j6 rfl E5 AT2)
end Go.PQ
namespace Go.PQ
open Go.Proofs
open Go Go.AV Go.M
attribute [local irreducible] OpW OpA OpS AWP J6 L6 K3 OpE K4 I5 L0 Le Ev G4 L9 Y8 Int.tmod IntKind.wrap T3
structure DealB (d:BX2):Prop where
  cuts:∀k∈d.Cuts,k.length≤4611686018427387904
  clen:d.Cuts.length≤1000000
  slen:d.States.length≤10
  olen:d.Orders.length≤1000000
  states:∀s∈d.States,s.size≤100000
  orders:∀o∈d.Orders,o.size≤300000
theorem Cx3 (l:List Str)(hl:l.length≤4194304):D6 41 [strs l] (strs l):=
  J5 (Ah4 l hl) fun v _=>K2 (i6.2 rfl) G3
theorem Cx4 (l:List B1)(hl:l.length≤4194304):D6 301 [AV.list 3 (l.map B1.cs)] (AV.list 3 (l.map B1.cs)):=
  J5 (BW0 l hl) fun v _=>K2 (i6.2 rfl) G3
theorem CM2 {P:Program}{G:Nat→Prop}{n:Nat}{own:List Go.AV.Own}{o:Oper}{E:P3}{a:Int}(b:Nat)(h:OpW P G n own o E (AV.int a))(e:a=(b:Int)):OpW P G n own o E (AV.int (b:Int)):=e▸h
end Go.PQ
namespace Go.PQ
open Go.Proofs Go.Proofs.Tryz
open Go Go.AV Go.M
structure DV (d:BX2):Prop where
  clen:d.Cuts.length≤2
  ckey:∀k∈d.Cuts,k.length≤64
  slen:d.States.length=d.Cuts.length+1
  st:∀s∈d.States,s.size≤15000
  os:∀o∈d.Orders,orderR o=true∧o.size≤1000
  olen:d.Orders.length≤4
attribute [local irreducible] OpW OpA OpS AWP J6 L6 K3 OpE K4 I5 L0 Le Ev G4 L9 Y8 Int.tmod IntKind.wrap T3
theorem DU7 (cuts rs:List Str)(ws:List B1)(part:Int)(hr:rs.length≤1000000)(hw:ws.length≤1000000):M0 420 [strs cuts,strs rs,AV.list 3 (ws.map B1.cs),AV.int part] [] (fun _:Value×Value=>True) (fun v=>[.arr v.1 9 1 ((rs.filter (inS cuts part)).map fun t=>[AV.str t]),.arr v.2 248 3 ((ws.filter fun w=>inS cuts part w.Key).map B1.cs)]) (fun v=>AV.tup [AV.is v.1,AV.is v.2]):=by
 have hrl:∀i,((rs.take i).filter (inS cuts part)).length≤1000000:=fun i=>L7 (List.length_filter_le _ _) CG0;have hwl:∀i,((ws.take i).filter fun w=>inS cuts part w.Key).length≤1000000:=fun i=>L7 (List.length_filter_le _ _) CG0;refine C8 func420 rfl ntmps420 rfl ?_;refine zq10 ?_;refine zq88 ?_;refine R3 ?_;refine n1 9 1 rfl rfl rfl rfl L2 ?_;intro v10;refine R3 ?_;refine n1 248 3 rfl rfl rfl rfl L2 ?_;intro v11;refine R9 ?_;refine zL [1,0] ?_;refine K5 [(0,_),(2,_),(3,_),(8,_),(9,_),(11,_),(16,_),(17,_)] _ (fun (i:Nat) (v:Value)=>i≤rs.length) (fun i v=>[.arr v 9 1 (((rs.take i).filter (inS cuts part)).map fun t=>[AV.str t]),.arr v11 248 3 []]) (fun i v=>[(10,AV.is v),(18,AV.int i)]) (fun i v=>rs.length-i) (0) (v10) ?_ (I1 B7 A6) ?_
 ·exact E4 _
 intro i v hinv;refine zK ?_ ?_
 ·intro h19 k19;have hlt:i<rs.length:=by (simpa using h19)
  obtain⟨x,hx⟩:=B2 hlt;have hri:=hrl i;refine zq72 ?_;refine R7 ?_;refine zF rfl call96 (Ae1 _ _) F3 ?_;refine zC ?_ ?_
  ·intro h26;refine R4 ?_;refine I0 (by':=16) 0 rfl rfl rfl rfl E2 type9 rfl rfl rfl rfl rfl rfl zA zA rfl qz1 ?_;intro v30_1;refine R6 ?_;refine H5 i v (i+1) (v30_1) ?_ ?_ (Le.trans (B4 [0,0] rfl) (I1 qz127 A6))
   ·exact qz7
   omega
  intro h26;refine R5 ?_;refine H5 i v (i+1) (v) ?_ ?_ (Le.trans (B4 [0,0] rfl) (I1 qz127 A6))
  ·exact qz7
  omega
 intro h19 k19;have hge:rs.length≤i:=by (simpa using h19)
 rw[S7 hge];refine R9 ?_;refine zL [1,0] ?_;refine K5 [(0,_),(3,_),(8,_),(9,_),(10,_),(32,_),(33,_)] _ (fun (j:Nat) (u:Value)=>j≤ws.length) (fun j u=>[.arr u 248 3 (((ws.take j).filter fun w=>inS cuts part w.Key).map B1.cs),.arr v 9 1 ((rs.filter (inS cuts part)).map fun t=>[AV.str t])]) (fun j u=>[(11,AV.is u),(34,AV.int j)]) (fun j u=>ws.length-j) (0) (v11) ?_ (I1 B7 A6) ?_
 ·exact E4 _
 intro j u hinv;refine zK ?_ ?_
 ·intro h35 k35;have hltj:j<ws.length:=by (simpa using h35)
  obtain⟨y,hy⟩:=B2 hltj;have hwj:=hwl j;refine R5 ?_;refine A1 rfl (C2 rfl G5 M8 zA zA hy qz1) ?_;refine R2 ?_;intro b15;refine R7 ?_;refine zF rfl call96 (Ae1 _ _) F3 ?_;refine zC ?_ ?_
  ·intro h43;refine R4 ?_;refine I0 (by':=40) 1 rfl rfl rfl rfl G5 type248 rfl rfl rfl rfl rfl rfl zA zA rfl qz1 ?_;intro v47_2;refine R6 ?_;refine H5 j u (j+1) (v47_2) ?_ ?_ (Le.trans (B4 [0,0,0] rfl) (D5 1 qz122 A6))
   ·exact qz7
   omega
  intro h43;refine R5 ?_;refine H5 j u (j+1) (u) ?_ ?_ (Le.trans (B4 [0,0,0] rfl) (D5 1 qz122 A6))
  ·exact qz7
  omega
 intro h35 k35;have hgej:ws.length≤j:=by (simpa using h35)
 rw[S7 hgej];refine R9 ?_;exact I9 [1,0] (v,u) (trivial) rfl B7 AO4
theorem DU8 (cuts rs:List Str)(ws:List B1)(part:Int)(hr:rs.length≤1000000)(hw:ws.length≤1000000):D6 420 [strs cuts,strs rs,AV.list 3 (ws.map B1.cs),AV.int part] (AV.tup [strs (rs.filter (inS cuts part)),AV.list 3 ((ws.filter fun w=>inS cuts part w.Key).map B1.cs)]):=
  J5 (DU7 cuts rs ws part hr hw) fun v _=>AQ7 (D7 (K2 (C3 (i:=0) rfl) G3) (D7 (K2 (C3 (i:=1) rfl) G3) Z6))
end Go.PQ
namespace Go.PQ
open Go.Proofs Go.Proofs.Tryz
open Go Go.AV Go.M
attribute [local irreducible] OpW OpA OpS AWP J6 L6 K3 OpE K4 I5 L0 Le Ev G4 L9 Y8 Int.tmod Int.tdiv IntKind.wrap T3
theorem Ce1 (cuts:List Str)(t:B5)(y:Value×Value)(hb:CF9 t):M0 92 [strs cuts,AV.agg (B5.ocs t y)] (B5.ow t y) (fun _:Unit=>True) (fun _=>B5.ow t y) (fun _=>AV.tup [strs (i9 t.Got),AV.list 3 ((P2 t.Ops t.Got).2.2.map B1.cs),ints (U7 cuts t),AV.bool (AK5 t)]):=by
 have hgl:=hb.got.1;have hrl:=Az9 t.Got;have hst:=ran (got:=t.Got) (n:=1000) E5 hb.ops;have hwl:(P2 t.Ops t.Got).2.2.length≤1000:=L7 hst.len (by have:=hb.len;omega);obtain⟨S,hS⟩:∃S,P2 t.Ops t.Got=S:=⟨_,rfl⟩;have hstep:=CA2 t.Ops y.1 t.Got hb.len hb.ops hb.got.2;have hbq:AK5 t=((P2 t.Ops t.Got).1==3&&decide (0<((((i9 t.Got).map fun t=>[AV.str t]).length:Nat):Int)+((((P2 t.Ops t.Got).2.2.map B1.cs).length:Nat):Int))):=by unfold AK5;simp only[A8]
 rw[hbq];unfold U7;rw[hS]at hstep hwl⊢;have hkl:=Af9 (i9 t.Got++O8 S.2.2);rw[I2,show (O8 S.2.2).length=S.2.2.length from A8 ..]at hkl;refine C8 func92 rfl ntmps92 rfl ?_;refine R3 ?_;intro b3;refine zq88 ?_;refine zq88 ?_;refine zq88 ?_;refine R8 ?_;refine zI [1] rfl call161 (hstep) F3 rfl ?_;intro x19 ok19;refine R10 ?_;refine n1 9 1 rfl rfl rfl rfl L2 ?_;intro v11;refine R10 ?_;refine zL [0,0] ?_;refine K5 [(0,_),(4,_),(5,_),(6,_),(7,_),(8,_),(10,_),(24,_),(25,_)] _ (fun (i:Nat) (v:Value)=>i≤t.Got.length) (fun i v=>[.arr v 9 1 ((i9 (t.Got.take i)).map fun t=>[AV.str t]),.arr y.1 58 3 (t.Got.map H7.cs)]) (fun i v=>[(11,AV.is v),(26,AV.int i)]) (fun i v=>t.Got.length-i) (0) (v11) ?_ (I1 B7 A6) ?_
 ·exact E4 _
 intro i v hinv;refine zK ?_ ?_
 ·intro h27 k27;have hlt:i<t.Got.length:=(by simpa using h27);obtain⟨g,hg⟩:=B2 hlt;have hrs:=CL7 (t.Got.take i);have hrn:=Az9 (t.Got.take i);rw[H0]at hrn;refine R5 ?_;refine A1 rfl (I4 1 rfl N1 W7 zA rfl zA qz7 AE8) ?_;refine A1 rfl (r5 1 rfl zA rfl isAgg58 W7 qz96 E5) ?_;refine R1 ?_;intro b13;refine R6 ?_;refine zI [1] rfl call105 (Ah5 v (i9 (t.Got.take i)) g.Key hrs qz7) F3 rfl ?_;intro x33 ok33;refine R6 ?_;refine H5 i v (i+1) (x33) ?_ ?_ (Le.trans (B4 [1,0,0] rfl) (D5 1 (by (rw[CL8 hg];rfl)) A6))
  ·exact qz7
  omega
 intro h27 k27;have hge:t.Got.length≤i:=(by simpa using h27);rw[S7 hge];refine R2 ?_;refine AWP.le (AI8 [0] 11 rfl rfl (K2 (C3 (i:=0) rfl) G3) (AB1 0 rfl rfl (AB1 2 rfl rfl M6))) ?_;refine zq159 ?_;exact I9 [0,1] () (trivial) rfl B7 (j6 rfl E5 (G0 (A5 rfl B7) AT2))
theorem DU9 (b:Nat)(w:C7)(X:WX)(T:List (Value×Value))(L:List Value)(t:Int)(told:H2)(lead:Int)(gi:C1)(hw:WI w)(hq:∀tx,w.Txns[(t-1).toNat]? =some tx→0≤tx.Begin∧tx.Begin<w.Count)(hT:T.length=w.Txns.length)(ht:1≤t∧(t-1).toNat<w.Txns.length)(h0:0≤lead)(hx:w.Groups[lead.toNat]? =some gi)(hl:0≤gi.Lead):M0 414 [AV.ptr b 0,AV.int t,AV.agg told.cs,AV.int lead] (WB b w X T L) (fun v:C7×Bool=>WF w v.1) (fun v=>WB b v.1 X T L) (fun v=>AV.bool v.2):=by
 have htn:=hw.txns.1;obtain⟨c,hc,hcg,hl3,hg2,hnow,hsl,hsh⟩:=Bi8 hw h0 hx hl;obtain⟨tx,htx⟩:=B2 ht.2;obtain⟨y,hy⟩:=B2 (show (t-1).toNat<T.length by omega);have hls:=BL6 b w X T L lead gi c hx qz7 qz7 hc hcg hnow;have hwf:=wf_fin hw htx (hq tx htx) told;obtain⟨W',hW⟩:∃W',AO3 w (t-1).toNat (CP9 tx told w.Count)=W':=⟨_,rfl⟩;rw[hW]at hwf;have hfr:=Bi7 b W' X T L t hwf.wi;refine C8 func414 rfl ntmps414 rfl ?_;refine R3 ?_;intro b6;refine R11 ?_;refine A1 rfl (I4 6 rfl M4 U3 zA rfl zA qz7 (by rw[i0 hT];omega)) ?_;refine R12 ?_;refine M1 rfl (Q3 rfl rfl rfl) (fun hc=>AA5 [1,1,1,1,1,1,1] 1 (nwZ w T L) ([]) rfl call416 rfl rfl (r8) (hls) zS) ?_;refine M1 rfl (Q3 rfl rfl rfl) (fun hc=>CH0 rfl underlying163 rfl O3 (A7 rfl hc) rfl) ?_;refine zC ?_ ?_
 ·intro h28;refine R5 ?_;exact H8 [1,1,1,1,1,1,1] 1 (nwZ w T L) ((w,false)) ((by first|exact WF.refl hw|exact hwf.trans (BH6 hwf.wi ok49))) rfl B7 Q4
 intro h28;refine R6 ?_;refine zq128 ?_;refine q9 6 rfl rfl rfl zA zA (Ai9 _) rfl j3 qz2 rfl ?_;refine R6 ?_;refine zq167 ?_;refine R9 ?_;refine zq167 ?_;refine R2 ?_;refine H3 (show _=Go.AV.Own.box b6 118 told.cs::WB b W' X T L from(by rw[←hW];unfold WB AO3;dsimp only;simp only[BH9];rw[AT7 htx hy,Ao0 (p':=CP9 tx told w.Count) htx (fun _=>rfl)];rfl)) ?_;refine R3 ?_;refine zq115 ?_;intro x49 ok49;refine R6 ?_;exact H8 [0,0,0,0,0,0,0] 1 (nin B5.ow W'.Txns T++nin C5.ow W'.Looks L) ((Ab0 W' x49,true)) ((by first|exact WF.refl hw|exact hwf.trans (BH6 hwf.wi ok49))) rfl B7 Q4
theorem Cx5 (b:Nat)(w:C7)(X:WX)(T:List (Value×Value))(L:List Value)(t lead:Int)(gi:C1)(hw:WI w)(hq:∀tx,w.Txns[(t-1).toNat]? =some tx→0≤tx.Begin∧tx.Begin<w.Count)(hT:T.length=w.Txns.length)(ht:1≤t∧(t-1).toNat<w.Txns.length)(h0:0≤lead)(hx:w.Groups[lead.toNat]? =some gi):M0 405 [AV.ptr b 0,AV.int t,AV.int lead] (WB b w X T L) (fun v:C7×Bool×Bool=>WF w v.1) (fun v=>WB b v.1 X T L) (fun v=>AV.tup [AV.bool v.2.1,AV.bool v.2.2]):=by
 have hgi:=hw.groups gi (C3 hx);have hng:=hw.n;have hgl:=(G1.1 hx).1;refine C8 func405 rfl ntmps405 rfl ?_;refine R14 ?_;refine A1 rfl (I4 2 rfl F8 C6 zA rfl zA qz7 AE8) ?_;refine zq130 ?_;refine zC ?_ ?_
 ·intro h19;refine R6 ?_;exact H8 [0,0,0,0,0,0,0] 0 (nwZ w T L) ((w,false,false)) ((by first|exact WF.refl hw|exact ok34)) rfl B7 AO4
 intro h19;have hrd:AX0 gi=true:=Bd9;have hl:=AP9 hrd;have hgs:=At4 hgi.good hl;have htl:=hgs.tlen;refine R5 ?_;refine A1 rfl (AA5 [0,0,0,0,0,0,0] 0 (nwZ w T L) ([]) rfl call372 rfl rfl (r8) (Aw7 b w X T L lead gi hx h0 hgi.good hl) F3) ?_;refine R1 ?_;refine zF rfl call93 (AJ7 (q7 gi) t qz7) F3 ?_;refine R4 ?_;intro b8;refine zC ?_ ?_
 ·intro h29;refine R6 ?_;exact H8 [1,1,1,1,1,1,1] 1 (nwZ w T L) ((w,false,false)) ((by first|exact WF.refl hw|exact ok34)) rfl B7 AO4
 intro h29;refine R7 ?_;refine M2 [1,1,1,1,1,1,1] 1 7 (nwZ w T L) (fun zz=>nwZ zz.1 T L) rfl rfl rfl rfl call414 rfl rfl (DU9 b w X T L t _ lead gi hw hq hT ht h0 hx hl) BR0 (fun a=>O4) ?_;intro x34 ok34;refine R4 ?_;exact H8 [0,0,0,0,0,0,0] 1 (nwZ x34.1 T L) ((x34.1,x34.2,true)) ((by first|exact WF.refl hw|exact ok34)) rfl B7 AO4
theorem DV0 (b:Nat)(w:C7)(X:WX)(T:List (Value×Value))(L:List Value)(t lead:Int)(yes:Bool)(times:List Int)(gi:C1)(hw:WI w)(h0:0≤lead)(hx:w.Groups[lead.toNat]? =some gi):M0 406 [AV.ptr b 0,AV.int t,AV.int lead,AV.bool yes,ints times] (WB b w X T L) (fun v:C1×Bool=>WG v.1) (fun v=>WB b (Z7 w lead.toNat v.1) X T L) (fun v=>AV.bool v.2):=by
 have hgi:=hw.groups gi (C3 hx);have hng:=hw.n;have hgl:=(G1.1 hx).1;refine C8 func406 rfl ntmps406 rfl ?_;refine R13 ?_;refine A1 rfl (I4 2 rfl F8 C6 zA rfl zA qz7 AE8) ?_;refine zq130 ?_;refine zC ?_ ?_
 ·intro h23;refine R5 ?_;exact H8 [0,0,0,0,0,0,0] 0 (nwZ w T L) ((gi,false)) (Bn0) rfl Bn1 Q4
 intro h23;have hrd:AX0 gi=true:=Bu2;have hl:=AP9 hrd;have hgs:=AS6 hgi.good hl;have htl:=hgs.tlen;obtain⟨c,hc,hcg,hl3,hg2,hnow,hsl,hsh⟩:=Bi8 hw h0 hx hl;refine R6 ?_;refine A1 rfl (AA5 [0,0,0,0,0,0,0] 0 (nwZ w T L) ([]) rfl call122 rfl rfl (r8) (Ag2 b w X T L lead gi hx h0 hgi.good hl) F3) ?_;refine R1 ?_;refine zF rfl call93 (AJ7 (Z8 gi) t qz7) F3 ?_;refine R4 ?_;intro b11;refine zC ?_ ?_
 ·intro h32;refine R4 ?_;refine M2 [1,1,1,1,1,1,1] 1 7 (nwZ w T L) (fun zz=>nwZ w T L) rfl rfl rfl rfl call192 rfl rfl (Az8 b w X T L lead gi hx h0 hgi) F3 (fun a=>O4) ?_;intro x35 ok35;refine R6 ?_;exact H8 [0,0,0,0,0,0,0] 1 (nwZ w T L) ((x35,true)) (Bn0) rfl Bn1 Q4
 intro h32;refine R6 ?_;intro b13;refine zC ?_ ?_
 ·intro h38;have hput:=Aw8 b w X T L lead ⟨2,t,Ao7 ((AB3 c w.Now).High+1) times,0,[],[],true⟩ gi hx h0 hgi (show (0:Nat)≤1000 from by decide) (fun w9 hw9=>by cases hw9);refine R9 ?_;refine A1 rfl (AA5 [2,2,2,2,2,2,2] 2 (nwZ w T L) ([]) rfl call416 rfl rfl (r8) (BL6 b w X T L lead gi c hx qz7 qz7 hc hcg hnow) F3) ?_;refine zF rfl call415 (CU7 times (AB3 c w.Now) ⟨hsh,hsl⟩) F3 ?_;refine R8 ?_;refine zq147 ?_;intro x49 ok49;refine R3 ?_;exact H8 [0,0,0,0,0,0,0] 2 (nwZ w T L) ((x49.1,x49.2)) (Bn0) rfl Bn1 Q4
 intro h38;have hput:=Aw8 b w X T L lead ⟨2,t,0,0,[],[],false⟩ gi hx h0 hgi (show (0:Nat)≤1000 from by decide) (fun w9 hw9=>by cases hw9);refine R6 ?_;refine zq147 ?_;intro x49 ok49;refine R3 ?_;exact H8 [0,0,0,0,0,0,0] 2 (nwZ w T L) ((x49.1,x49.2)) (Bn0) rfl Bn1 Q4
theorem Ax0 {α:Type}{a b c:List α}(e:a=b)(h:b.Perm c):a.Perm c:=e▸h
theorem read_own (b:Nat)(w:C7)(X:WX)(T:List (Value×Value))(L:List Value)(t:Int)(k:Str)(hw:WI w)(hT:T.length=w.Txns.length)(ht:1≤t∧(t-1).toNat<w.Txns.length)(hk:k.length≤12):M0 391 [AV.ptr b 0,AV.int t,AV.str k] (WB b w X T L) (fun v:(C7×Bool)×List (Value×Value)=>WF w v.1.1∧v.2.length=T.length) (fun v=>WB b v.1.1 X v.2 L) (fun v=>AV.bool v.1.2):=by
 have hng:=hw.n;have htn:=hw.txns.1;obtain⟨p,hp⟩:∃p:Nat,r4 w.Cuts k=p:=⟨_,rfl⟩;obtain⟨gi,hx,hgl⟩:=CM0 hw k;rw[hp]at hx hgl;have hgi:=hw.groups gi (C3 hx);obtain⟨tx,htx⟩:=B2 ht.2;obtain⟨y,hy⟩:=B2 (show (t-1).toNat<T.length by omega);have htk:=hw.txns.2 tx (C3 htx);obtain⟨n,hn⟩:=B2 (show ((p:Nat):Int).toNat<tx.Terms.length by rw[htk.terms];omega);have hlate:=Cd4 b w X T L (p:Int) t tx y n gi htx hy hT qz7 qz7 hn hx;have hpart:D6 96 [strs w.Cuts,AV.str k] (AV.int ((p:Nat):Int)):=by rw[←hp];exact Ae1 w.Cuts k
 refine C8 func391 rfl ntmps391 rfl ?_;refine R12 ?_;refine zF rfl call96 (hpart) F3 ?_;refine R11 ?_;refine A1 rfl (I4 2 rfl F8 C6 zA rfl zA qz7 Ax4) ?_;refine zq130 ?_;refine zC ?_ ?_
 ·intro h26;refine R5 ?_;exact H8 [0,0,0,0,0,0,0] 0 (nwZ w T L) (((w,false),T)) (CB2) rfl CA9 Q4
 intro h26;have hrd:AX0 gi=true:=(by simpa using h26);have hl:=AP9 hrd;refine R7 ?_;refine A1 rfl (AA5 [0,0,0,0,0,0,0] 0 (nwZ w T L) ([]) rfl call407 rfl rfl (r8) (hlate) AD5) ?_;refine zC ?_ ?_
 ·intro h30;refine zq151 ?_;intro x33 ok33;refine R6 ?_;exact H8 [0,0,0,0,0,0,0] 0 (nwZ x33 T L) (((x33,true),T)) (CB2) rfl CA9 Q4
 intro h30;refine R8 ?_;refine M2 [0,0,0,0,0,0,0] 0 7 (nwZ w T L) (fun zz=>nwZ zz.1 T L) rfl rfl rfl rfl call408 rfl rfl (Cx2 b w X T L (p:Int) t k false gi hw hT ht qz7 hx hl hk) (A2 zA (A2 zA Cm9)) (fun a=>O4) ?_;intro x38 ok38;refine zC ?_ ?_
 ·intro h39;refine R5 ?_;exact H8 [0,0,0,0,0,0,0] 0 (nwZ x38.1 T L) (((x38.1,false),T)) (CB2) rfl CA9 Q4
 intro h39;have hx:x38.1.Groups[((p:Nat):Int).toNat]? =some gi:=(by rw[ok38.gr];exact hx);have hT:T.length=x38.1.Txns.length:=(hT.trans ok38.ws.txns.symm);obtain⟨tx,htx⟩:=B2 (show (t-1).toNat<x38.1.Txns.length by omega);have htk:=ok38.wi.txns.2 tx (C3 htx);have hgs:=At4 hgi.good hl;have hcs:=BJ0 hgs.cells;have hcl:=CL9 hgs.cells k 100000;refine R5 ?_;refine A1 rfl (AA5 [0,0,0,0,0,0,0] 0 (nwZ x38.1 T L) ([]) rfl call372 rfl rfl (r8) (Aw7 b x38.1 X T L (p:Int) gi hx qz7 hgi.good hl) F3) ?_;refine A1 rfl (CH0 rfl AA3 rfl isAgg60 zA rfl) ?_;refine R1 ?_;refine zF rfl call95 (BZ7 (q7 gi).Cells k 100000 qz7) zS ?_;refine zC ?_ ?_
 ·intro h50;obtain⟨G,hG⟩:∃G:H7,G=⟨k,[],(cellAt (q7 gi).Cells k 100000).2⟩:=⟨_,rfl⟩;have hGs:G.size≤64:=(by rw[hG];unfold H7.size;simp only[T5];omega);refine R1 ?_;refine zq13 ?_;refine R3 ?_;refine H3 Ac9 ?_;refine zq36 ?_;refine zK ?_ ?_
  ·intro h62 k62;exact zq86
  intro h62 k62;refine R2 ?_;refine zq126 ?_;intro v85_1 _;refine R1 ?_;refine A1 rfl (I4 1 rfl M4 U3 zA rfl zA qz7 Ax4) ?_;refine A1 rfl (O1 1 rfl M5 rfl Y5 zA rfl rfl qz2) ?_;refine O7 2 rfl fun one_v85_1=> ?_;refine q9 1 rfl rfl rfl zA zA (F6 one_v85_1) rfl Y5 qz2 rfl ?_;refine R2 ?_;refine H3 Ac9 ?_;refine zL [0,0,1,1,1,1,1,0,0] ?_;refine AWP.le (U1 7 (t:=nin B5.ow (x38.1.Txns.set (t-1).toNat (As7 tx G)) (T.set (t-1).toNat (v85_1,y.2))++nin C5.ow x38.1.Looks L) ((Ax0 (b:=[Go.AV.Own.arr v85_1 58 3 ((tx.Got++[G]).map H7.cs),Go.AV.Own.arr y.2 3 1 (tx.Terms.map fun n=>[AV.int n])]++(nin B5.ow (x38.1.Txns.eraseIdx (t-1).toNat) (T.eraseIdx (t-1).toNat)++nin C5.ow x38.1.Looks L)) (by subst hG;rw[Y3];rfl) (CM1 (w:=x38.1) (L:=L) (p':=As7 tx G) (y':=(v85_1,y.2)) htx hy)))) ?_;refine R4 ?_;exact H8 [0,1,1,1,1,0,0] 0 (nin B5.ow (x38.1.Txns.set (t-1).toNat (As7 tx G)) (T.set (t-1).toNat (v85_1,y.2))++nin C5.ow x38.1.Looks L) (((AO3 x38.1 (t-1).toNat (As7 tx G),true),T.set (t-1).toNat (v85_1,y.2))) (CB2) rfl CA9 Q4
 intro h50;obtain⟨G,hG⟩:∃G:H7,G=⟨k,(cellAt (q7 gi).Cells k 100000).1,(cellAt (q7 gi).Cells k 100000).2⟩:=⟨_,rfl⟩;have hGs:G.size≤64:=(by rw[hG];unfold H7.size;dsimp only;omega);refine R3 ?_;refine H3 Ac9 ?_;refine zq36 ?_;refine zK ?_ ?_
 ·intro h62 k62;exact zq86
 intro h62 k62;refine R2 ?_;refine zq126 ?_;intro v85_2 _;refine R1 ?_;refine A1 rfl (I4 1 rfl M4 U3 zA rfl zA qz7 Ax4) ?_;refine A1 rfl (O1 1 rfl M5 rfl Y5 zA rfl rfl qz2) ?_;refine O7 2 rfl fun one_v85_2=> ?_;refine q9 1 rfl rfl rfl zA zA (F6 one_v85_2) rfl Y5 qz2 rfl ?_;refine R2 ?_;refine H3 Ac9 ?_;refine zL [0,0,1,1,1,1,1,0,0] ?_;refine AWP.le (U1 7 (t:=nin B5.ow (x38.1.Txns.set (t-1).toNat (As7 tx G)) (T.set (t-1).toNat (v85_2,y.2))++nin C5.ow x38.1.Looks L) ((Ax0 (b:=[Go.AV.Own.arr v85_2 58 3 ((tx.Got++[G]).map H7.cs),Go.AV.Own.arr y.2 3 1 (tx.Terms.map fun n=>[AV.int n])]++(nin B5.ow (x38.1.Txns.eraseIdx (t-1).toNat) (T.eraseIdx (t-1).toNat)++nin C5.ow x38.1.Looks L)) (by subst hG;rw[Y3];rfl) (CM1 (w:=x38.1) (L:=L) (p':=As7 tx G) (y':=(v85_2,y.2)) htx hy)))) ?_;refine R4 ?_;exact H8 [0,1,1,1,1,0,0] 0 (nin B5.ow (x38.1.Txns.set (t-1).toNat (As7 tx G)) (T.set (t-1).toNat (v85_2,y.2))++nin C5.ow x38.1.Looks L) (((AO3 x38.1 (t-1).toNat (As7 tx G),true),T.set (t-1).toNat (v85_2,y.2))) (CB2) rfl CA9 Q4
theorem DG8 (b:Nat)(w:C7)(X:WX)(T:List (Value×Value))(L:List Value)(t p lead:Int)(reads:List Str)(writes:List B1)(gi:C1)(hw:WI w)(hT:T.length=w.Txns.length)(ht:1≤t∧(t-1).toNat<w.Txns.length)(h0:0≤p)(hx:w.Groups[p.toNat]? =some gi)(hz:D2 (fun s:Str=>s.length) reads+D2 B1.size writes≤1000)(hk:∀x∈writes,x.Key∈AI5):M0 409 [AV.ptr b 0,AV.int t,AV.int p,AV.int lead,strs reads,AV.list 3 (writes.map B1.cs)] (WB b w X T L) (fun v:C7×Bool=>WI v.1∧WS w v.1) (fun v=>WB b v.1 X T L) (fun v=>AV.bool v.2):=by
 have hng:=hw.n;have htn:=hw.txns.1;have hgi:=hw.groups gi (C3 hx);have hgl:=(G1.1 hx).1;obtain⟨tx,htx⟩:=B2 ht.2;obtain⟨y,hy⟩:=B2 (show (t-1).toNat<T.length by omega);have htk:=hw.txns.2 tx (C3 htx);obtain⟨n,hn⟩:=B2 (show p.toNat<tx.Terms.length by rw[htk.terms];omega);have hlate:=Cd4 b w X T L p t tx y n gi htx hy hT qz7 h0 hn hx;have hrl:=BA0 (f:=fun s:Str=>s.length) (l:=reads);have hwl:=BA0 (f:=B1.size) (l:=writes);obtain⟨rs,hrs⟩:∃rs,reads.filter (inS w.Cuts p)=rs:=⟨_,rfl⟩;obtain⟨ws,hws⟩:∃ws,(writes.filter fun w9=>inS w.Cuts p w9.Key)=ws:=⟨_,rfl⟩;have hsh:=DU8 w.Cuts reads writes p qz7 qz7;have hsr:=BS9 (f:=fun s:Str=>s.length) (p:=inS w.Cuts p) (l:=reads);have hsw:=BS9 (f:=B1.size) (p:=fun w9:B1=>inS w.Cuts p w9.Key) (l:=writes);have hkw:∀x∈ws,x.Key∈AI5:=fun x hx9=>by rw[←hws]at hx9;exact hk x (List.mem_filter.1 hx9).1
 have hwsl:ws.length≤1000:=by rw[←hws];exact L7 (List.length_filter_le _ _) qz7
 rw[hrs,hws]at hsh;rw[hrs]at hsr;rw[hws]at hsw;refine C8 func409 rfl ntmps409 rfl ?_;refine R13 ?_;refine A1 rfl (I4 2 rfl F8 C6 zA rfl zA qz7 CB1) ?_;refine A1 rfl (r5 2 rfl zA rfl K6 C6 qz29 E5) ?_;refine zF rfl call370 (AO0 gi hgi.good) G6 ?_;refine zC ?_ ?_
 ·intro h33;refine R5 ?_;exact H8 [0,0,0,0,0,0,0] 0 (nwZ w T L) ((w,false)) (Be9) rfl Be8 Q4
 intro h33;have hrd:AX0 gi=true:=(by simpa using h33);have hl:=AP9 hrd;have hgs:=AS6 hgi.good hl;have hfs:=BE2 (AH7.2 hgs);have hft:=hgs.tlen;have hfh:=hgs.hlen;refine R5 ?_;refine A1 rfl (AA5 [0,0,0,0,0,0,0] 0 (nwZ w T L) ([]) rfl call122 rfl rfl (r8) (Ag2 b w X T L p gi hx h0 hgi.good hl) F3) ?_;refine R1 ?_;intro b13;refine R7 ?_;refine zF rfl call93 (AJ7 (Z8 gi) t qz7) F3 ?_;refine R4 ?_;intro b14;refine R10 ?_;refine S0 rfl (fun hc=>AA5 [2,2,2,2,2,2,2] 2 (nwZ w T L) ([]) rfl call407 rfl rfl (r8) (hlate) zS) ?_;refine zC ?_ ?_
 ·intro h49;refine R4 ?_;refine M2 [2,2,2,2,2,2,2] 2 7 (nwZ w T L) (fun zz=>nwZ zz T L) rfl rfl rfl rfl call392 rfl rfl (BQ5 b w X T L t hw hT qz7) F3 (fun a=>O4) ?_;intro x52 ok52;refine R6 ?_;exact H8 [0,0,0,0,0,0,0] 2 (nwZ x52 T L) ((x52,true)) (Be9) rfl Be8 Q4
 intro h49;refine R6 ?_;refine zF rfl call94 (Ae0 (Z8 gi) t qz7) F3 ?_;refine R4 ?_;intro b16;refine zC ?_ ?_
 ·intro h59;refine R4 ?_;refine M2 [3,3,3,3,3,3,3] 3 7 (nwZ w T L) (fun zz=>nwZ w T L) rfl rfl rfl rfl call192 rfl rfl (Az8 b w X T L p gi hx h0 hgi) F3 (fun a=>O4) ?_;intro x62 ok62;refine R6 ?_;exact H8 [0,0,0,0,0,0,0] 3 (nwZ w T L) ((Z7 w p.toNat x62,true)) (Be9) rfl Be8 Q4
 intro h59;refine R11 ?_;refine zF rfl call420 (hsh) BR0 ?_;refine R14 ?_;refine H3 qz131 ?_;refine zL [3,3,3,3,3,3,3,0,0,0] ?_;refine K5 [(0,_),(1,_),(2,_),(3,_),(13,_),(18,_),(19,_),(75,_),(76,_)] [] (fun (i:Nat) (v:C7)=>i≤ws.length∧WF w v) (fun i v=>[.box b 97 [AV.int v.Now,AV.int v.Count,AV.is X.cl,strs v.Cuts,AV.is X.gr,AV.is X.lo,AV.is X.pr,AV.is X.tx,AV.is X.lk],.arr X.cl 102 1 (v.Clocks.map S6.cs),.arr X.gr 38 3 (v.Groups.map C1.cs),.arr X.lo 105 1 (v.Locks.map fun l=>[AV.list 3 (l.map G9.cs)]),.arr X.pr 3 1 (v.Promised.map fun n=>[AV.int n]),.arr X.tx 94 10 (L4 B5.ocs v.Txns T),.arr X.lk 55 6 (L4 C5.ocs v.Looks L),.box b16 144 (AN4 (Z8 gi).Held t).1.cs,.box b14 118 (y5 (Z8 gi).Told t).1.cs,.box b13 64 (Z8 gi).cs]++(nwZ v T L)) (fun i v=>[(77,AV.int i)]) (fun i v=>ws.length-i) (0) (w) ?_ (I1 (by (rw[T2];rfl)) A6) ?_
 ·exact⟨E4 _,WF.refl hw⟩
 intro i v hinv;refine H3 (T2 _) ?_;refine zK ?_ ?_
 ·intro h78 k78;have hlt:i<ws.length:=(by simpa using h78);obtain⟨x,hxx⟩:=B2 hlt;have hkx:=(AL9 (hkw x (C3 hxx))).2;have hTv:T.length=v.Txns.length:=hT.trans hinv.2.ws.txns.symm;have hxv:v.Groups[p.toNat]? =some gi:=(by rw[hinv.2.gr];exact hx);have htv:(t-1).toNat<v.Txns.length:=qz7;refine R5 ?_;refine A1 rfl (C2 rfl G5 M8 zA zA hxx qz1) ?_;refine R2 ?_;intro b21;refine R10 ?_;refine M2 [1,1,1,1,1,1,1] 4 7 (nwZ v T L) (fun zz=>nwZ zz.1 T L) rfl rfl rfl rfl call408 rfl rfl (Cx2 b v X T L p t x.Key true gi hinv.2.wi hTv ⟨ht.1,htv⟩ h0 hxv hl qz7) (A2 zA (A2 zA Cm9)) (fun a=>O4) ?_;intro x86 ok86;refine zC ?_ ?_
  ·intro h86;refine R5 ?_;refine H5 i v (i+1) (x86.1) ?_ ?_ (Le.trans (B4 [7,0,0,0,0,0,0,0,0,0,0] rfl) (D5 1 (Eq.trans B7 (T2 _).symm) A6))
   ·exact⟨by omega,hinv.2.trans ok86⟩
   omega
  intro h86;have hT:T.length=x86.1.Txns.length:=hTv.trans ok86.ws.txns.symm;obtain⟨tx,htx⟩:=B2 (show (t-1).toNat<x86.1.Txns.length by omega);refine R11 ?_;refine A1 rfl (I4 5 rfl M4 U3 zA rfl zA qz7 CB1) ?_;refine A1 rfl (O1 5 rfl M5 rfl j3 zA rfl rfl qz2) ?_;refine A1 rfl (Q6 5 rfl zA rfl AF5 qz2 rfl) ?_;refine zC ?_ ?_
  ·intro h97;refine R5 ?_;exact H8 [0,0,0,0,0,0,0] 4 (nwZ x86.1 T L) ((x86.1,false)) (Be9) rfl Be8 Q4
  intro h97;refine R5 ?_;refine M2 [0,0,0,0,0,0,0] 4 7 (nwZ x86.1 T L) (fun zz=>nwZ zz T L) rfl rfl rfl rfl call392 rfl rfl (BQ5 b x86.1 X T L t ok86.wi hT qz7) F3 (fun a=>O4) ?_;intro x100 ok100;refine R6 ?_;exact H8 [0,0,0,0,0,0,0] 4 (nwZ x100 T L) ((x100,true)) (Be9) rfl Be8 Q4
 intro h78 k78;have hv:=hinv.2;have hT:T.length=v.Txns.length:=hT.trans hv.ws.txns.symm;have hx:v.Groups[p.toNat]? =some gi:=(by rw[hv.gr];exact hx);have hgl:=(G1.1 hx).1;obtain⟨tx,htx⟩:=B2 (show (t-1).toNat<v.Txns.length by omega);have htk:=hv.wi.txns.2 tx (C3 htx);obtain⟨pr,hpx⟩:=B2 (show p.toNat<v.Promised.length by rw[hv.wi.promised.1];exact hgl);obtain⟨n,hn⟩:=B2 (show p.toNat<tx.Terms.length by rw[htk.terms];exact hgl);have hnl:=(G1.1 hn).1;have hpl:=(G1.1 hpx).1;refine R7 ?_;refine zF rfl call282 (CK4 (Z8 gi) rs ws qz7 qz7) AD5 ?_;refine zC ?_ ?_
 ·intro h106;refine R4 ?_;refine M2 [0,0,0,0,0,0,0] 3 7 (nwZ v T L) (fun zz=>nwZ zz T L) rfl rfl rfl rfl call392 rfl rfl (BQ5 b v X T L t hv.wi hT qz7) F3 (fun a=>O4) ?_;intro x109 ok109;refine R6 ?_;exact H8 [0,0,0,0,0,0,0] 3 (nwZ x109 T L) ((x109,true)) (Be9) rfl Be8 Q4
 intro h106;refine R10 ?_;refine B3 rfl rfl (I4 4 rfl D3 E9 zA rfl zA qz7 CB1) ?_;refine B3 rfl rfl (AC8 4 rfl zA rfl O3 (Bs2 (g:=AV.int) hpx)) ?_;refine B3 rfl rfl (zG rfl call421 (Bx6 (Z8 gi) pr qz7) F3) ?_;refine R20 ?_;refine Am6 rfl rfl (Y6 rfl rfl rfl) ?_ ?_
 ·intro gh134;refine M2 [0,0,0,0,0,0,0] 3 7 (nwZ v T L) (fun zz=>nwZ v T L) rfl rfl rfl rfl call120 rfl rfl (Aw8 b v X T L p ⟨1,t,(Bk6 (Z8 gi) pr).1,lead,rs,ws,false⟩ gi hx h0 hgi (show D2 (fun x:Str=>x.length) rs+D2 B1.size ws≤1000 by omega) hkw) (A2 (A7 rfl gh134) (A2 (A7 rfl gh134) (A2 (A7 rfl gh134) A9))) (fun a=>O4) ?_;intro x134 ok134;refine zC ?_ ?_
  ·intro h136;refine R5 ?_;exact H8 [0,0,0,0,0,0,0] 3 (nwZ v T L) ((Z7 v p.toNat x134.1,false)) (Be9) rfl Be8 Q4
  intro h136;refine R2 ?_;refine H3 qz88 ?_;refine R8 ?_;refine A1 rfl (I4 5 rfl M4 U3 zA rfl zA qz7 CB1) ?_;refine A1 rfl (O1 5 rfl M5 rfl j3 zA rfl rfl qz2) ?_;refine q9 5 rfl rfl rfl zA Ao8 (Ai9 _) rfl j3 qz2 rfl ?_;refine R2 ?_;refine H3 qz88 ?_;refine AWP.le (U1 10 (t:=([Go.AV.Own.arr y.1 58 3 (tx.Got.map H7.cs),Go.AV.Own.arr y.2 3 1 (tx.Terms.map fun n=>[AV.int n])])++(nin B5.ow (v.Txns.eraseIdx (t-1).toNat) (T.eraseIdx (t-1).toNat)++nin C5.ow v.Looks L)) (AZ7 htx hy)) ?_;refine J3 21 E3 E3 rfl ?_;refine R7 ?_;refine B3 rfl rfl (I4 5 rfl M4 U3 zA rfl zA qz7 CB1) ?_;refine B3 rfl rfl (O1 5 rfl M5 rfl Ae3 zA rfl rfl qz2) ?_;refine B3 rfl rfl (Q6 5 rfl zA rfl isAgg28 qz2 rfl) ?_;refine R7 ?_;refine B3 rfl rfl (I4 2 rfl F8 C6 zA rfl zA qz7 CB1) ?_;refine B3 rfl rfl (O1 2 rfl Y7 rfl E9 zA rfl rfl qz29) ?_;refine B3 rfl rfl (Q6 2 rfl zA rfl O3 qz29 rfl) ?_;refine B3 rfl rfl (I4 11 rfl D3 E9 zA rfl zA qz7 CB1) ?_;refine R1 ?_;refine e8 11 rfl rfl rfl zA zA (X2 _ _) rfl E9 rfl qz1 ?_;refine R2 ?_;refine H3 qz88 ?_;refine zL [0,0,0,0,0,0,0,0,0,0,0,0] ?_;refine AWP.le (U1 10 (t:=nin B5.ow (v.Txns.set (t-1).toNat (AM3 (BC0 tx) p.toNat x134.1.Term)) T++nin C5.ow v.Looks L) ((by have h9:=CM1 (w:=v) (L:=L) (p':=AM3 (BC0 tx) p.toNat x134.1.Term) (y':=y) htx hy;rw[BS8 hy]at h9;unfold B5.ow AM3 BC0 at h9⊢;dsimp only at h9;rw[AF4]at h9;exact h9))) ?_;refine R4 ?_;exact H8 [0,0,0,0,0,0,0] 3 (nin B5.ow (v.Txns.set (t-1).toNat (AM3 (BC0 tx) p.toNat x134.1.Term)) T++nin C5.ow v.Looks L) ((AO3 (Z7 v p.toNat x134.1) (t-1).toNat (AM3 (BC0 tx) p.toNat x134.1.Term),true)) (Be9) rfl Be8 Q4
 intro gh134;refine Am6 rfl rfl (Y6 rfl rfl rfl) (fun hq=>by rw[gh134]at hq;cases hq) (fun _=> ?_);refine A1 rfl (w_or rfl zA (Bv5 (x:=AV.bool false) gh134)) ?_;refine zC ?_ ?_
 ·intro h136;refine R5 ?_;exact H8 [0,0,0,0,0,0,0] 3 (nwZ v T L) ((v,false)) (Be9) rfl Be8 Q4
 intro h136
 (exfalso;have h9:=gh134;simp at h9 h136;rw[h9]at h136;cases h136)
theorem CV1 (u:Value)(l:List Int)(s:Ac5)(hl:l.length≤1000)(hs:s.High≤1000000∧ -1000000≤s.High):M0 415 [AV.is u,AV.agg s.cs] [.arr u 3 1 (l.map fun n=>[AV.int n])] (fun _:Unit=>True) (fun _=>[.arr u 3 1 (l.map fun n=>[AV.int n])]) (fun _=>AV.int (Ao7 (s.High+1) l)):=by
 refine C8 func415 rfl ntmps415 rfl ?_;refine R3 ?_;intro b3;refine R17 ?_;refine zL [1] ?_;refine K5 [(4,_),(11,_),(12,_)] _ (fun (i:Nat) (m:Int)=>i≤l.length∧m=Ao7 (s.High+1) (l.take i)) (fun i m=>[.arr u 3 1 (l.map fun n=>[AV.int n])]) (fun i m=>[(5,AV.int m),(13,AV.int i)]) (fun i m=>l.length-i) (0) (s.High+1) ?_ (I1 B7 A6) ?_
 ·exact zq4
 intro i m hinv;refine zK ?_ ?_
 ·intro h14 k14;have hlt:i<l.length:=At1;obtain⟨x,hx⟩:=B2 hlt;refine R5 ?_;refine A1 rfl (I4 0 rfl D3 E9 zA rfl zA qz7 AE8) ?_;refine A1 rfl (AC8 0 rfl zA rfl O3 (flat1 (g:=AV.int) hx)) ?_;refine R5 ?_;refine zF rfl call193 (AH8 _ _) F3 ?_;refine R6 ?_;refine H5 i m (i+1) (m5 m x) ?_ ?_ (Le.trans (B4 [0] rfl) (I1 B7 A6))
  ·exact⟨by omega,by rw[Bz8 hx,hinv.2]⟩
  omega
 intro h14 k14;have hge:l.length≤i:=At1;rw[show m=Ao7 (s.High+1) l from by rw[hinv.2,S7 hge]];refine R7 ?_;exact I9 [0] () (trivial) rfl B7 Q4
theorem DG9 (u:Value)(b:Nat)(w:C7)(X:WX)(T:List (Value×Value))(L:List Value)(t lead:Int)(yes:Bool)(times:List Int)(gi:C1)(htl9:times.length≤1000)(hw:WI w)(h0:0≤lead)(hx:w.Groups[lead.toNat]? =some gi):M0 406 [AV.ptr b 0,AV.int t,AV.int lead,AV.bool yes,AV.is u] (.arr u 3 1 (times.map fun n=>[AV.int n])::WB b w X T L) (fun v:C1×Bool=>WG v.1) (fun v=> .arr u 3 1 (times.map fun n=>[AV.int n])::WB b (Z7 w lead.toNat v.1) X T L) (fun v=>AV.bool v.2):=by
 have hgi:=hw.groups gi (C3 hx);have hng:=hw.n;have hgl:=(G1.1 hx).1;refine C8 func406 rfl ntmps406 rfl ?_;refine R13 ?_;refine A1 rfl (I4 3 rfl F8 C6 zA rfl zA qz7 AE8) ?_;refine A1 rfl (r5 3 rfl zA rfl K6 C6 qz5 E5) ?_;refine zF rfl call370 (AO0 gi hgi.good) G6 ?_;refine zC ?_ ?_
 ·intro h23;refine R5 ?_;exact H8 [0,0,0,0,0,0,0,0] 0 (nwZ w T L) ((gi,false)) (Bn0) rfl Bn1 Q4
 intro h23;have hrd:AX0 gi=true:=Bu2;have hl:=AP9 hrd;have hgs:=AS6 hgi.good hl;have htl:=hgs.tlen;obtain⟨c,hc,hcg,hl3,hg2,hnow,hsl,hsh⟩:=Bi8 hw h0 hx hl;refine R6 ?_;refine A1 rfl (AA5 [1,1,1,1,1,1,1] 1 (nwZ w T L) ([]) rfl call122 rfl rfl (r8) (Ag2 b w X T L lead gi hx h0 hgi.good hl) F3) ?_;refine R1 ?_;refine zF rfl call93 (AJ7 (Z8 gi) t qz7) F3 ?_;refine R4 ?_;intro b11;refine zC ?_ ?_
 ·intro h32;refine R4 ?_;refine M2 [2,2,2,2,2,2,2] 2 7 (nwZ w T L) (fun zz=>nwZ w T L) rfl rfl rfl rfl call192 rfl rfl (Az8 b w X T L lead gi hx h0 hgi) F3 (fun a=>O4) ?_;intro x35 ok35;refine R6 ?_;exact H8 [8,0,0,0,0,0,0,0] 1 (nwZ w T L) ((x35,true)) (Bn0) rfl Bn1 Q4
 intro h32;refine R6 ?_;intro b13;refine zC ?_ ?_
 ·intro h38;have hput:=Aw8 b w X T L lead ⟨2,t,Ao7 ((AB3 c w.Now).High+1) times,0,[],[],true⟩ gi hx h0 hgi (show (0:Nat)≤1000 from by decide) (fun w9 hw9=>by cases hw9);refine R9 ?_;refine A1 rfl (AA5 [3,3,3,3,3,3,3] 3 (nwZ w T L) ([]) rfl call416 rfl rfl (r8) (BL6 b w X T L lead gi c hx qz7 qz7 hc hcg hnow) F3) ?_;refine zI [2] rfl call415 (CV1 u times (AB3 c w.Now) htl9 ⟨hsh,hsl⟩) F3 rfl ?_;intro x44 ok44;refine R8 ?_;refine zq146 ?_;intro x49 ok49;refine R3 ?_;exact H8 [7,0,0,0,0,0,0,0] 2 (nwZ w T L) ((x49.1,x49.2)) (Bn0) rfl Bn1 Q4
 intro h38;have hput:=Aw8 b w X T L lead ⟨2,t,0,0,[],[],false⟩ gi hx h0 hgi (show (0:Nat)≤1000 from by decide) (fun w9 hw9=>by cases hw9);refine R6 ?_;refine zq146 ?_;intro x49 ok49;refine R3 ?_;exact H8 [9,0,0,0,0,0,0,0] 2 (nwZ w T L) ((x49.1,x49.2)) (Bn0) rfl Bn1 Q4
end Go.PQ