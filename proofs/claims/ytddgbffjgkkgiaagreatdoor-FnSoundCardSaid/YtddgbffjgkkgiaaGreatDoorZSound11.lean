/- Texts of the claim, part 11. -/
import Derived.Test.YtddgbffjgkkgiaaGreatDoorZSound10
set_option linter.defProp false
set_option linter.unusedVariables false
set_option linter.unusedSimpArgs false
set_option maxRecDepth 100000
set_option maxHeartbeats 40000000
namespace Go.M
open Go.AV
def BC2 (w:C7)(k:Nat):Bool:=match w.Txns[k]? with|some t=>Aa8 w (O6 w) k t (U7 w.Cuts t) ((P2 t.Ops t.Got).1==3)|none=>true
def AS3 (w:C7):Bool×Bool:=if Z4 w=true then (((w.Groups.all Ac7&&(List.range w.Txns.length).all (BC2 w))&&w.Looks.all fun l=>decide (r6 w.Cuts (O6 w) l.Got l.Time=l.Got)),true)else (false,false)
def Bu1 :F4:=⟨0,⟨0,0,0,0,[],[],false⟩⟩
def zERow :List AV:=[AV.int 0,AV.int 0,AV.int 0,AV.int 0,AV.int 0,AV.nils,AV.nils,AV.bool false]
theorem zERow_lc {own:List Go.AV.Own}:AJ1 own zERow Bu1.cs:=D7 H9 (D7 H9 (D7 H9 (D7 H9 (D7 H9 (D7 BC8 (D7 BC8 (D7 H9 Z6)))))))
theorem Dg0 {own:List Go.AV.Own}(n:Nat):BO8 own (List.replicate n zERow) ((List.replicate n Bu1).map F4.cs):=by
  refine⟨by simp,fun i e f h k=> ?_⟩;rw[List.getElem?_replicate]at h;rw[a8,List.getElem?_replicate]at k;split at h
  · rename_i hlt
    rw[D9 hlt]at k;injection h with h;injection k with k;subst h;subst k
    exact zERow_lc
  ·cases h
def BQ0 {α:Type}(l:List α)(z:α)(i:Nat):List α:=l.take i++List.replicate (l.length-i) z
theorem Dg1 {α:Type}{l:List α}{z:α}{i:Nat}(h:i≤l.length):(BQ0 l z i).length=l.length:=by unfold BQ0;rw[I2,H0,w3];omega
theorem Dg2 {α:Type}{l:List α}{z x:α}{i:Nat}(hx:l[i]? =some x):(BQ0 l z i).set i x=BQ0 l z (i+1):=by
  have hi:=(G1.1 hx).1;have ht:(l.take i).length=i:=by rw[H0];omega
  unfold BQ0;rw[List.set_append_right _ _ qz7,ht,Nat.sub_self];obtain⟨m,hm⟩:∃m,l.length-i=m+1:=⟨l.length-i-1,by omega⟩;rw[hm,List.replicate_succ,Ax7,show l.length-(i+1)=m by omega,X3,hx,o7];rfl
theorem Dg3 {α:Type}{l:List α}{z:α}{i:Nat}(h:l.length≤i):BQ0 l z i=l:=by
  unfold BQ0;rw[S7 h,show l.length-i=0 by omega];exact T2 _
theorem DM7 {a b:Bool}(h:(!(!a|| !b))=true):b=true:=by revert h;cases a<;>cases b<;>decide
theorem rec_lens {r:N5}(h:r.size≤1048576):r.Reads.length≤4194304∧r.Writes.length≤4194304:=by
  have h1:=M7 (f:=fun s:Str=>s.length) (l:=r.Reads);have h2:=M7 (f:=B1.size) (l:=r.Writes);have h3:D2 (fun s:Str=>s.length) r.Reads+D2 B1.size r.Writes≤1048576:=h;omega
theorem Dg4 (l a b:Int):min l (max b a)=if l<(if b>a then b else a)then l else (if b>a then b else a):=by rw[Int.min_def,Int.max_def];split<;>split<;>(repeat' split)<;>omega
theorem DM8 {a b:Bool}(h:(!(a|| !b))=true):b=true:=by revert h;cases a<;>cases b<;>decide
theorem Ce8 {g:C1}(h:(!(!P0 g||decide (g.Lead<0)))=true):0≤g.Lead∧g.Lead<g.Reps.length:=by
  simp only[n5,v9,AD1,AB8]at h;rcases(o9.1 h.1).lead with e|⟨a,b,_⟩
  ·omega
  ·exact⟨a,b⟩
theorem DH7 {g:C1}{r:N5}(hno:(AE2 g r).2=false)(h:(((!P0 g||decide (g.Lead<0))||((((M3 g g.Lead).Log.map F4.cs).length:Int)==60))|| !T8 r)=false):False:=by
  rw[A8]at h;simp only[v9,AD1,AB8,beq_eq_false_iff_ne]at h;have gg:=o9.1 h.1.1.1;have hl:AS2 g=true:=by unfold AS2;rw[h.1.1.1,W6 (by have:=h.1.1.2;omega)];rfl
  obtain⟨_,l0,l1,_⟩:=Ab8.1 hl;have h60:=(gg.reps _ (AE6 ⟨l0,l1⟩)).len;unfold AE2 at hno;rw[D9 ⟨by rw[hl,h.2];rfl,by have:=h.1.2;omega⟩]at hno
  cases hno
theorem DH8 {l p:List F4}{n:Nat}(hn:n≤p.length):AQ5 l (p.take n)=AC4 l p n:=by
  unfold AQ5 AC4;have hl:(p.take n).length=n:=by rw[H0];omega
  rw[hl,AI1];simp only[F0,H6];exact⟨fun h=>⟨h.1,hn,h.2⟩,fun h=>⟨h.1,h.2.2⟩⟩
def BX6 (l:List TOp):Bool:= !(n8 l&&decide (0<(l.length:Int)))
def badLI (l:List Str):Bool:= !AP4 l
theorem nw_bad {cuts:List Str}{ps:List (List TOp)}(h:∀p∈ps,n8 p=true)(hb:ps.any BX6=true):nOk ps=false:=by
  obtain⟨p,hp,hx⟩:=List.any_eq_true.1 hb;unfold BX6 at hx;rw[h p hp,Bool.true_and]at hx
  cases hn:nOk ps with
  |false=>rfl
  |true=>have h9:=V7.1 hn p hp;rw[h9]at hx;cases hx
theorem nw_good {ps:List (List TOp)}(hb:ps.any BX6=false):nOk ps=true:=by
  unfold nOk;rw[V7];intro p hp;have h9:=List.any_eq_false.1 hb p hp;unfold BX6 at h9;simp only[n5,Bool.not_eq_false,F0]at h9;exact h9.2
theorem nw_looks {ls:List (List Str)}(h:∀l∈ls,AP4 l=true):ls.any badLI=false:=by
  rw[List.any_eq_false];intro l hl;unfold badLI;rw[h l hl];decide
theorem CA4 {l:List Str}(h0:1≤l.length∧l.length≤8)(hk:∀k∈l,k∈AI5)(hs:AP2 l):AP4 l=true:=by
  unfold AP4 within
  rw[Cd8 (fun k h=>(AL9 (hk k h)).1) hs,W6 qz7,W6 qz7];rfl
def nWV (N:Nat)(cuts:List Str)(P:List B5)(Q:List C5):C7:=⟨0,0,List.replicate (3*N) ⟨0⟩,cuts,List.replicate N nG5,List.replicate N [],List.replicate N 0,P,Q⟩
theorem BJ7 {p:List TOp}(h:n8 p=true):D2 TOp.size p≤1048576∧p.length≤8:=by
  have h8:p.length≤8:=by have h7:=h;unfold n8 at h7;rw[F0,H6]at h7;have:=h7.1;omega
  have h9:=AE5 (f:=TOp.size) (c:=36) (l:=p) fun o ho=>(AT6 h o ho).size;exact⟨by omega,h8⟩
theorem most9 (n:Nat)(h:n≤9):1≤m5 1 (n:Int)∧m5 1 (n:Int)≤9:=by unfold m5;split<;>omega
theorem putS_pos (s:Str)(l:List Str):1≤(AE9 l s).length:=by
  cases l with
  |nil=>simp[AE9]
  |cons x l=>unfold AE9;split<;>(try split)<;>simp
def DA3 (p:List TOp):Prop:=(n8 p=true∧∀o∈p,o.Key∈AI5)∧1≤p.length
def CX4 (l:List Str):Prop:=(1≤l.length∧l.length≤8)∧AP2 l∧∀k∈l,k∈AI5
end Go.M
namespace Go.PQ
open Go.Proofs Go.Proofs.Tryz
open Go Go.AV Go.M
attribute [local irreducible] OpW OpA OpS AWP J6 L6 K3 OpE K4 I5 L0 Le Ev G4 L9 Y8 Int.tmod Int.tdiv IntKind.wrap T3
theorem BT2 (w:C7)(z:WZ w)(hx:∀t∈w.Txns,AA4 w t=true→D2 B1.size (P2 t.Ops t.Got).2.2≤300000∧(U7 w.Cuts t).length≤1000000):D6 6 [AV.wt Al6 (AV.agg w.cs)] (AV.tup [AV.bool (AS3 w).1,AV.bool (AS3 w).2]):=by
 have hgl:=z.groups.1;refine B0 func6 rfl ntmps6 rfl ?_;refine zq195 ?_;refine R3 ?_;intro b1;refine R7 ?_;refine zF rfl call15 (BA2 w z) G6 ?_;refine zC ?_ ?_
 ·intro h12;have he:AS3 w=(false,false):=(by unfold AS3;exact D0 Ax3);rw[he];exact zq207
 intro h12;have hgw:Z4 w=true:=Ax3;obtain⟨ws1,ws2,ws3,ws4⟩:=world_states z hgw;have gw:=Az0 hgw;have htl:=gw.txns.1;have hll:=gw.looks.1;have hcut:=gw.cuts.2;have hsl:w.Cuts.length<(O6 w).length:=(by unfold O6;rw[A8,gw.groups.1];omega);have hgs:∀s∈O6 w,GS s:=(fun s hs=>by obtain⟨g,hg,rfl⟩:=n6.1 hs;exact BV9 (ws1 g hg));have he:AS3 w=(((w.Groups.all Ac7&&(List.range w.Txns.length).all (BC2 w))&&w.Looks.all fun l=>decide (r6 w.Cuts (O6 w) l.Got l.Time=l.Got)),true):=D9 hgw;rw[he];refine R4 ?_;refine zF rfl call17 (BW9 w hgl ws1) G6 ?_;refine R11 ?_;refine E8 [(1,_),(4,_),(16,_),(17,_)] _ (fun (i:Nat)=>i≤w.Groups.length∧(w.Groups.take i).all Ac7=true) (fun i=>[]) (fun i=>[(18,AV.int i)]) (fun i=>w.Groups.length-i) (0) ?_ (I1 B7 A6) ?_
 ·exact zq4
 intro i hinv;refine zK ?_ ?_
 ·intro h19 k19;have hlt:i<w.Groups.length:=Bd9;obtain⟨g,hg⟩:=B2 hlt;have hgz:=z.groups.2 g (C3 hg);refine R5 ?_;refine zq101 ?_;intro b6;refine R5 ?_;refine zF rfl call8 (CA3 g hgz.1) G6 ?_;refine zC ?_ ?_
  ·intro h24;have hq:Ac7 g=false:=(by simpa using h24);rw[Ap8 hg hq];exact zq207
  intro h24;have hq:Ac7 g=true:=(by simpa using h24);refine R5 ?_;refine F1 i (i+1) ?_ ?_ (Le.trans (B4 [0] rfl) (D5 1 B7 A6))
  ·exact⟨by omega,AU8 hg hinv.2 hq⟩
  omega
 intro h19 k19;have hge:w.Groups.length≤i:=Bd9;have hsafe:=hinv.2;rw[S7 hge]at hsafe;refine R10 ?_;refine E8 [(1,_),(4,_),(28,_)] _ (fun (j:Nat)=>j≤w.Txns.length∧(List.range j).all (BC2 w)=true) (fun j=>[]) (fun j=>[(29,AV.int j)]) (fun j=>w.Txns.length-j) (0) ?_ (I1 B7 A6) ?_
 ·exact zq4
 intro j hinv;refine zK ?_ ?_
 ·intro h30 k30;have hlt1:j<w.Txns.length:=(by simpa using h30);obtain⟨t,ht⟩:=B2 hlt1;have hgt:=gw.txns.2 t (C3 ht);obtain⟨hsb,hop8,hgk⟩:=Bw7 hgt;have htx:=txn_sb hgt;have hxx:=hx t (C3 ht) hgt;refine R13 ?_;refine A1 rfl (Ad5 1 rfl rfl call18 rfl (CN2 w j t qz7 ht ws2 hgs hsl ws3 hcut hsb qz7 (Bp6 hgk) hxx.1 hxx.2 htx.2) AD5 BQ8) ?_;refine zC ?_ ?_
  ·intro h36;have hqt:BC2 w j=false:=(by unfold BC2;rw[ht];simpa using h36);rw[CE7 hlt1 hqt,Bool.and_false];exact zq207
  intro h36;have hqt:BC2 w j=true:=(by unfold BC2;rw[ht];simpa using h36);refine R5 ?_;refine F1 j (j+1) ?_ ?_ (I1 B7 A6)
  ·exact⟨by omega,Bj5 hinv.2 hqt⟩
  omega
 intro h30 k30;have hjl:j=w.Txns.length:=(by have h9:w.Txns.length≤j:=(by simpa using h30);omega);subst hjl;have htall:=hinv.2;refine R10 ?_;refine E8 [(1,_),(4,_),(39,_),(40,_)] _ (fun (m:Nat)=>m≤w.Looks.length∧(w.Looks.take m).all (fun l=>decide (r6 w.Cuts (O6 w) l.Got l.Time=l.Got))=true) (fun m=>[]) (fun m=>[(41,AV.int m)]) (fun m=>w.Looks.length-m) (0) ?_ (I1 B7 A6) ?_
 ·exact zq4
 intro m hinv;refine zK ?_ ?_
 ·intro h42 k42;have hlt2:m<w.Looks.length:=(by simpa using h42);obtain⟨l,hl⟩:=B2 hlt2;have hlg:=Ce3 (gw.looks.2 l (C3 hl));refine R5 ?_;refine A1 rfl (C2 rfl j8 AJ8 zA zA hl qz1) ?_;refine R2 ?_;intro b9;refine R10 ?_;refine B3 rfl rfl (zG rfl call20 (BH8 w (O6 w) l.Got l.Time ws2 hsl qz7) BR0) ?_;refine R2 ?_;refine B3 rfl rfl (zG rfl call19 (At5 (r6 w.Cuts (O6 w) l.Got l.Time) l.Got) F3) ?_;refine zC ?_ ?_
  ·intro h55;have hql:decide (r6 w.Cuts (O6 w) l.Got l.Time=l.Got)=false:=(by simpa using h55);rw[Ap8 (p:=fun l=>decide (r6 w.Cuts (O6 w) l.Got l.Time=l.Got)) hl hql,Bool.and_false];exact zq207
  intro h55;have hql:decide (r6 w.Cuts (O6 w) l.Got l.Time=l.Got)=true:=(by simpa using h55);refine R5 ?_;refine F1 m (m+1) ?_ ?_ (Le.trans (B4 [0] rfl) (D5 1 B7 A6))
  ·exact⟨by omega,AU8 (p:=fun l=>decide (r6 w.Cuts (O6 w) l.Got l.Time=l.Got)) hl hinv.2 hql⟩
  omega
 intro h42 k42;have hgem:w.Looks.length≤m:=(by simpa using h42);have hlall:=hinv.2;rw[S7 hgem]at hlall;rw[hsafe,htall,hlall];refine R7 ?_;exact zq32
theorem Bm3 (r:N5)(h:r.size≤1048576):D6 246 [AV.agg r.cs] (AV.agg r.cs):=by
  have hl:=rec_lens h;refine B0 func246 rfl ntmps246 rfl ?_;refine R3 ?_;intro b1;refine R1 ?_;intro b2;refine R5 ?_;refine zF rfl call41 (Cx3 r.Reads qz7) G6 ?_;refine R7 ?_;refine zF rfl call301 (Cx4 r.Writes qz7) G6 ?_;refine R9 ?_;exact D1 rfl (F5 (ys:=_) 0 rfl rfl AK0 y9 rfl)
theorem BT4 (l:List F4)(hs:D2 F4.size l≤1048576):M0 242 [AV.list 8 (l.map F4.cs)] [] (fun _:Value=>True) (fun v=>[.arr v 179 8 (l.map F4.cs)]) (fun v=>AV.is v):=by
 have hll:l.length≤1048576:=L7 M7 hs;refine C8 func242 rfl ntmps242 rfl ?_;refine zq10 ?_;refine R5 ?_;refine DJ1 (by':=96) rfl rfl rfl rfl L3 type179 rfl rfl rfl rfl rfl rfl zA zA BF8 BF8 ?_;intro v8;refine R4 ?_;refine AWP.le (BR5 1 0 (.arr v8 179 8 ((BQ0 l Bu1 0).map F4.cs)) rfl (⟨rfl,rfl,rfl,by rw[A8];exact Dg0 _⟩) M6) ?_;refine R6 ?_;refine zL [0] ?_;refine E8 [(2,_),(3,_),(9,_),(10,_)] _ (fun (i:Nat)=>i≤l.length) (fun i=>[.arr v8 179 8 ((BQ0 l Bu1 i).map F4.cs)]) (fun i=>[(11,AV.int i)]) (fun i=>l.length-i) (0) ?_ (I1 B7 A6) ?_
 ·exact E4 _
 intro i hinv;refine zK ?_ ?_
 ·intro h12 k12;have hlt:i<l.length:=Ax3;obtain⟨x,hx⟩:=B2 hlt;have hsx:x.Rec.size≤1048576:=L7 (W4 (f:=F4.size) hx) hs;have hfl:=Dg1 (l:=l) (z:=Bu1) (Nat.le_of_lt hlt);refine R6 ?_;refine zq96 ?_;refine R2 ?_;intro b5;refine R3 ?_;refine J3 9 E3 E3 rfl ?_;refine R5 ?_;refine B3 rfl rfl (BC4 _ 0 rfl zA rfl AK0 y9 rfl rfl) ?_;refine B3 rfl rfl (zG rfl call246 (Bm3 x.Rec hsx) G6) ?_;refine R1 ?_;refine B3 rfl rfl (I4 1 rfl L3 Q1 zA rfl zA qz7 (by rw[A8,hfl];omega)) ?_;refine R1 ?_;refine e8 1 rfl rfl rfl zA zA (e6 _) rfl Q1 rfl qz1 ?_;refine R5 ?_;refine F1 i (i+1) ?_ ?_ (D5 1 (by (rw[←Dg2 hx,AF4];rfl)) A6)
  ·exact qz7
  omega
 intro h12 k12;have hge:l.length≤i:=Ax3;rw[Dg3 hge];refine R7 ?_;exact I9 [0] v8 (trivial) rfl B7 Q4
theorem BM0 (l:List F4)(hs:D2 F4.size l≤1048576):D6 242 [AV.list 8 (l.map F4.cs)] (AV.list 8 (l.map F4.cs)):=
  J5 (BT4 l hs) fun x _=>K2 (C3 (i:=0) rfl) G3
theorem BE4 (g:C1)(hs:g.size≤1048576):M0 180 [AV.agg g.cs] [] (fun _:Value=>True) (fun v=>C1.fow g v) (fun v=>AV.agg (C1.fcs g v)):=by
 have hrs:D2 D8.size g.Reps≤1048576:=hs;have hll:g.Reps.length≤1048576:=L7 M7 hrs;refine C8 func180 rfl ntmps180 rfl ?_;refine R3 ?_;intro b1;refine R1 ?_;intro b2;refine R9 ?_;intro b3;refine R11 ?_;refine X5 70 3 ?_;refine zL [1,0] ?_;refine K5 [(2,_),(3,_),(12,_),(13,_)] _ (fun (i:Nat) (v:Value)=>i≤g.Reps.length) (fun i v=>[.box b3 38 (C1.fcs g v),.arr v 70 3 ((g.Reps.take i).map D8.cs)]) (fun i v=>[(14,AV.int i)]) (fun i v=>g.Reps.length-i) (0) ((E6)) ?_ (I1 B7 A6) ?_
 ·exact E4 _
 intro i v hinv;refine zK ?_ ?_
 ·intro h15 k15;have hlt:i<g.Reps.length:=Ax2;obtain⟨x,hx⟩:=B2 hlt;have hsx:D2 F4.size x.Log≤1048576:=L7 (W4 (f:=D8.size) hx) hrs;refine R5 ?_;refine zq116 ?_;refine R2 ?_;intro b5;refine R2 ?_;refine J3 11 E3 E3 rfl ?_;refine R6 ?_;refine B3 rfl rfl (zG rfl call242 (BM0 x.Log hsx) G6) ?_;refine R5 ?_;refine I0 (by':=40) 2 rfl rfl rfl rfl D4 type70 rfl rfl rfl rfl rfl rfl zA zA rfl Be7 ?_;intro v29_1;refine R1 ?_;refine O7 2 rfl fun one_v29_1=> ?_;refine N2 1 rfl rfl rfl zA zA (F6 one_v29_1) rfl AR1 rfl ?_;refine R5 ?_;refine H5 i v (i+1) (v29_1) ?_ ?_ (Le.trans (B4 [0,0,0] rfl) (D5 1 (by (rw[BI7 hx,Y3];rfl)) A6))
  ·exact qz7
  omega
 intro h15 k15;have hge:g.Reps.length≤i:=Ax2;rw[S7 hge];refine R7 ?_;exact I9 [1] v (trivial) rfl B7 (O2 rfl (F5 (ys:=_) 2 rfl rfl K6 C6 rfl))
theorem CN3 (g:C1)(hs:g.size≤1048576):M0 180 [AV.agg g.cs] [] (fun x:Value×List Value=>x.2.length=g.Reps.length) (fun x=> .arr x.1 70 3 (L4 D8.ocs g.Reps x.2)::nin D8.ow g.Reps x.2) (fun x=>AV.agg [AV.is x.1,AV.int g.Term,AV.int g.Lead]):=by
 have hrs:D2 D8.size g.Reps≤1048576:=hs;have hll:g.Reps.length≤1048576:=L7 M7 hrs;refine C8 func180 rfl ntmps180 rfl ?_;refine R3 ?_;intro b1;refine R1 ?_;intro b2;refine R9 ?_;intro b3;refine R11 ?_;refine X5 70 3 ?_;refine zL [1,1,1,0] ?_;refine W1 [(2,_),(3,_),(12,_),(13,_)] [] (fun (i:Nat) (v:Value) (xs:List Value)=>i≤g.Reps.length∧xs.length=i) (fun i v xs=>[.box b3 38 [AV.is v,AV.int g.Term,AV.int g.Lead],.box b2 38 (List.map m7 (Value.agg #[E6,Value.int IntKind.i64 0,Value.int IntKind.i64 0]).cells.toList),.box b1 38 g.cs,.arr v 70 3 (L4 D8.ocs (g.Reps.take i) xs)]++(nin D8.ow (g.Reps.take i) xs)) (fun i v xs=>[(14,AV.int i)]) (fun i v xs=>g.Reps.length-i) (0) ((E6)) ([]) ?_ (I1 B7 A6) ?_
 ·exact zq4
 intro i v xs hinv;refine H3 (T2 _) ?_;refine zK ?_ ?_
 ·intro h15 k15;have hlt:i<g.Reps.length:=Ax2;obtain⟨x,hx⟩:=B2 hlt;have hsx:D2 F4.size x.Log≤1048576:=L7 (W4 (f:=D8.size) hx) hrs;refine R5 ?_;refine zq116 ?_;refine R2 ?_;intro b5;refine R2 ?_;refine P1 _ [(0,false),(1,false),(2,false),(3,false),(4,false),(5,false),(7,false),(8,false),(6,true),(9,false),(10,false),(11,true)] E3 E3 rfl (U8 3) ?_;refine R8 ?_;refine U2 rfl rfl rfl (J2 5 (fun _=>rfl) (AC6 5 (S9 [] rfl call242 rfl (BT4 x.Log hsx) G6 rfl))) (fun a _=>qz3) ?_;intro x24 ok24;have one_x24:=ok24.2
  replace ok24:=ok24.1
  refine N0 rfl rfl rfl (fun ext=>Q7 (places:=#[(0,1),(1,1),(2,1)]) rfl q6 zeroValue70 (fun w=>by kernel_rfl) rfl (B6 zA (Ai9 _) (B6 zA (F6 one_x24) (B6 zA (X2 _ _) N6))) rfl) ?_;refine R1 ?_;refine U2 rfl rfl rfl (N3 (by':=40) 4 rfl D4 type70 rfl rfl rfl rfl rfl rfl zA zA rfl BK6) (fun a _=>qz3) ?_;intro v29_1 _;refine R2 ?_;refine O7 4 rfl fun one_v29_1=> ?_;refine N2 1 rfl rfl rfl zA zA (F6 one_v29_1) rfl AR1 rfl ?_;refine R1 ?_;refine zL [0,0,0,0,0,0] ?_;refine AWP.le (U1 5 (t:=nin D8.ow (g.Reps.take (i+1)) (xs++[x24])) (AV8 (ow:=D8.ow) (x:=x24) hx hinv.2)) ?_;refine R4 ?_;refine Q8 i v xs (i+1) (v29_1) (xs++[x24]) ?_ ?_ (Le.trans (B4 [0,0,0,0,0] rfl) (D5 1 (Eq.trans qz168 (T2 _).symm) A6))
  ·exact⟨by omega,by rw[I2,hinv.2];rfl⟩
  omega
 intro h15 k15;have hge:i=g.Reps.length:=(by have h9:g.Reps.length≤i:=Ax2;omega);have hxs:=hinv.2.trans hge;rw[show g.Reps.take i=g.Reps from S7 qz7];exact zq203
namespace tw11n1
def tw11x0 :=@Tryz.func241
def tw11x1 :=@Tryz.ntmps241
end tw11n1
open tw11n1 in
theorem Aq0 (l:List F4):D6 241 [AV.list 8 (l.map F4.cs)] (AV.int (AW8 l)):=Cu5
theorem Ci2 (a b:List F4):D6 179 [AV.list 8 (a.map F4.cs),AV.list 8 (b.map F4.cs)] (AV.bool (Ae9 a b)):=by
  refine B0 Tryz.func179 rfl Tryz.ntmps179 rfl ?_;refine R7 ?_;refine zF rfl Tryz.call241 (Aq0 a) G6 ?_;refine R1 ?_;refine zF rfl Tryz.call241 (Aq0 b) G6 ?_;refine R3 ?_;refine S0 rfl (fun hc=>zG rfl Tryz.call241 (Aq0 a) zS) ?_;refine R1 ?_;refine S0 rfl (fun hc=>zG rfl Tryz.call241 (Aq0 b) zS) ?_;refine R12 ?_;exact D1 rfl (A5 rfl (by exact F2 AV.bool (by unfold Ae9;rw[A8,A8];congr 2;exact decide_eq_decide.2 qz7)))
theorem CA5 (g:C1)(pre:D8→Prop)(p:D8→Bool)(hl:g.Reps.length≤1048576)(hp:∀x∈g.Reps,pre x):D6 177 [AV.agg g.cs,AV.fun1 Tryz.prog pre (fun a=>AV.agg a.cs) (fun a=>AV.bool (p a))] (AV.bool (BK1 g p)):=by
 refine B0 Tryz.func177 rfl Tryz.ntmps177 rfl ?_;refine R3 ?_;intro b2;refine R15 ?_;refine K5 [(1,_),(2,_),(4,_),(9,_),(10,_)] _ (fun (i:Nat) (m:Nat)=>i≤g.Reps.length∧m≤i∧m=((g.Reps.take i).filter p).length) (fun i m=>[]) (fun i m=>[(5,AV.int m),(11,AV.int i)]) (fun i m=>g.Reps.length-i) (0) (0) ?_ (I1 B7 A6) ?_
 ·exact⟨E4 _,K9 _,rfl⟩
 intro i m hinv;refine zK ?_ ?_
 ·intro h12 k12;have hlt:i<g.Reps.length:=Ax3;obtain⟨x,hx⟩:=B2 hlt;refine R5 ?_;refine zq116 ?_;refine R2 ?_;intro b7;refine R6 ?_;refine A1 rfl (Cn6 rfl zA x (hp x (C3 hx)) zA) ?_;refine zC ?_ ?_
  ·intro h17;refine R9 ?_;refine H5 i m (i+1) (m+1) ?_ ?_ (Le.trans (B4 [0] rfl) (D5 1 B7 A6))
   ·exact⟨by omega,by omega,by rw[AR9 hx,D9 h17,hinv.2.2]⟩
   omega
  intro h17;refine R5 ?_;refine H5 i m (i+1) (m) ?_ ?_ (Le.trans (B4 [0] rfl) (D5 1 B7 A6))
  ·exact⟨by omega,by omega,by rw[AR9 hx,D0 (by rw[h17];decide),Nat.add_zero];exact hinv.2.2⟩
  omega
 intro h12 k12;have hge:g.Reps.length≤i:=Ax3;have hm:=hinv.2.2;rw[S7 hge]at hm;refine R4 ?_;refine A1 rfl (Ad0 rfl L1 zA qz1) ?_;refine R7 ?_;exact D1 rfl (A5 rfl (by exact F2 AV.bool (by unfold BK1;rw[←hm,A8])))
theorem CW2 (g:C1)(r:Int)(x:D8)(hr:0≤r∧r<g.Reps.length):D6 178 [AV.agg x.cs,AV.eptr g.cs,AV.eptr [AV.int r]] (AV.bool (x.Up&& !Ae9 x.Log (M3 g r).Log)):=by
  refine B0 Tryz.func178 rfl Tryz.ntmps178 rfl ?_;refine R3 ?_;intro b3;refine R12 ?_;refine M1 rfl (Q3 rfl rfl rfl) (fun hc=>C2 rfl D4 F9 (A7 rfl hc) (A7 rfl hc) (Z3 hr) qz7) ?_;refine R2 ?_;refine M1 rfl (Q3 rfl rfl rfl) (fun hc=>zG rfl Tryz.call179 (Ci2 x.Log (M3 g r).Log) zS) ?_;exact zq40
theorem Ci3 (g:C1)(r:Int)(hs:g.size≤1048576):M0 112 [AV.agg g.cs,AV.int r] [] (fun _:Value=>True) (fun v=>C1.fow (V8 g r).1 v) (fun v=>AV.tup [AV.agg (C1.fcs (V8 g r).1 v),AV.bool (V8 g r).2]):=by
 have hrs:D2 D8.size g.Reps≤1048576:=hs;have hgl:g.Reps.length≤1048576:=L7 M7 hrs;refine C8 Tryz.func112 rfl Tryz.ntmps112 rfl ?_;refine R3 ?_;intro b2;refine CR7 rfl rfl rfl rfl zA (one_ik _ _) ?_;intro b3;refine R1 ?_;intro b4;refine R6 ?_;refine zF rfl Tryz.call26 (AJ0 g hs) G6 ?_;refine R4 ?_;refine S0 rfl (fun hc=>zG rfl Tryz.call98 (BZ5 g r hgl) zS) ?_;refine R6 ?_;refine S0 rfl (fun hc=>C2 rfl D4 F9 (A7 rfl hc) (A7 rfl hc) (Z3 (AN9.1 (DM7 hc))) (by have h9:=(AN9.1 (DM7 hc)).1;omega)) ?_;refine zC ?_ ?_
 ·intro h29;have hnu:¬((Ao5 g r true&& !(g.Term==200))=true):=qz169;have he:V8 g r=(AH4,false):=(by unfold V8;rw[D0 (fun h=>hnu h.1)]);rw[he];exact zq28
 intro h29;have hyu:(Ao5 g r true&& !(g.Term==200))=true:=qz169;have hu:Ao5 g r true=true:=(by rw[F0]at hyu;exact hyu.1);obtain⟨gg,hr,hup⟩:=AV9.1 hu;have htm:=gg.term;refine R5 ?_;refine A1 rfl (Ag8 rfl rfl F3) ?_;refine A1 rfl (n2 rfl Tryz.call177 rfl (CA5 g (fun _=>True) (fun x=>x.Up&& !Ae9 x.Log (M3 g r).Log) hgl (fun _ _=>trivial)) (T9 _) (N7 (evb zA) (N7 (AC7 (Bf6 2 1 zA rfl rfl) (AL4 Tryz.call178 (fun x h=>CW2 g r x hr))) o8))) ?_;refine zC ?_ ?_
 ·intro h34;have he:V8 g r=(AH4,false):=(by unfold V8;rw[D0 (fun h=>by rw[h.2]at h34;cases h34)]);rw[he];exact zq28
 intro h34;have he:V8 g r=(⟨g.Reps,g.Term+1,r⟩,true):=(by unfold V8;rw[D9 ⟨hyu,by simpa using h34⟩]);rw[he];refine R4 ?_;refine zI [] rfl Tryz.call180 (BE4 g hs) G6 rfl ?_;intro x37 ok37;refine R1 ?_;intro b6;refine R23 ?_;exact I9 [1] x37 (trivial) rfl B7 (j6 rfl E5 (G0 (F5 (ys:=_) 2 rfl rfl K6 C6 rfl) V6))
theorem CW3 (g:C1)(r:Int)(hs:g.size≤1048576):D6 112 [AV.agg g.cs,AV.int r] (AV.tup [AV.agg (V8 g r).1.cs,AV.bool (V8 g r).2]):=
  J5 (Ci3 g r hs) fun v _=>AQ7 (D7 (C1.fl _ v) (D7 H9 Z6))
end Go.PQ
namespace Go.PQ
open Go.Proofs Go.Proofs.Tryz
open Go Go.AV Go.M
attribute [local irreducible] OpW OpA OpS AWP J6 L6 K3 OpE K4 I5 L0 Le Ev G4 L9 Y8 Int.tmod Int.tdiv IntKind.wrap T3
theorem DH9 (g:C1)(r:Int)(hs:g.size≤1048576):M0 247 [AV.agg g.cs,AV.int r] [] (fun _:Value=>True) (fun v=>C1.fow (AA1 g r).1 v) (fun v=>AV.tup [AV.agg (C1.fcs (AA1 g r).1 v),AV.bool (AA1 g r).2]):=by
 have hrs:D2 D8.size g.Reps≤1048576:=hs;have hgl:g.Reps.length≤1048576:=L7 M7 hrs;refine C8 func247 rfl ntmps247 rfl ?_;refine R3 ?_;intro b2;refine R1 ?_;intro b4;refine R6 ?_;refine zF rfl call26 (AJ0 g hs) G6 ?_;refine R15 ?_;refine S0 rfl (fun hc=>zG rfl call98 (BZ5 g r hgl) zS) ?_;refine R6 ?_;refine S0 rfl (fun hc=>C2 rfl D4 F9 (A7 rfl hc) (A7 rfl hc) (Z3 (AN9.1 (DM8 hc))) (by have h9:=(AN9.1 (DM8 hc)).1;omega)) ?_;refine zC ?_ ?_
 ·intro h36;have he:AA1 g r=(AH4,false):=(by unfold AA1;rw[D0 (by rintro ⟨a,b⟩;obtain⟨a1,a2⟩:=(F0 _ _).mp a;obtain⟨gg,hr,hup⟩:=AV9.1 a1;have hld:=AB7 a2;rw[o9.2 gg,AN9.2 hr,hup,AC1 (show ¬g.Lead<0 by omega),beq_eq_false_iff_ne.2 (fun e=>b e.symm)]at h36;cases h36)]);rw[he];exact zq170
 intro h36;have hh:=h36;simp only[v9,AD1,AB8,beq_eq_false_iff_ne]at hh;obtain⟨⟨⟨⟨hgd,hl0⟩,hne⟩,hrp⟩,hup⟩:=hh;have hu:Ao5 g r true=true:=(by unfold Ao5;rw[hgd,hrp,hup];rfl);obtain⟨gg,hr,hup2⟩:=AV9.1 hu;have hld:0≤g.Lead∧g.Lead<g.Reps.length:=(by rcases gg.lead with e|⟨a,b,_⟩;omega;exact⟨a,b⟩);have hxr:=Z3 hr;have hxl:=Z3 hld;have hls:D2 F4.size (M3 g g.Lead).Log≤1048576:=L7 (W4 (f:=D8.size) hxl) hs;have he:AA1 g r=(AW7 g r ⟨true,(M3 g g.Lead).Log,min ((M3 g g.Lead).Log.length:Int) (max (M3 g r).Sure (M3 g g.Lead).Sure)⟩,true):=(by unfold AA1;rw[D9 ⟨by rw[hu,W6 qz7];rfl,fun e=>hne e.symm⟩]);rw[he,Dg4];refine R4 ?_;refine zI [] rfl call180 (BE4 g hs) G6 rfl ?_;intro x39 ok39;refine R1 ?_;intro b6;refine R8 ?_;refine zq148 ?_;intro b7;refine R3 ?_;refine J3 21 E3 E3 rfl ?_;refine R5 ?_;refine B3 rfl rfl (zG rfl call242 (BM0 _ hls) G6) ?_;refine R5 ?_;refine B3 rfl rfl (C2 rfl D4 F9 zA zA hxr qz7) ?_;refine R2 ?_;refine B3 rfl rfl (w_max rfl zA zA) ?_;refine R3 ?_;refine B3 rfl rfl (w_min rfl zA zA) ?_;refine R1 ?_;refine B3 rfl rfl (I4 2 rfl D4 F9 zA rfl zA qz7 AF7) ?_;refine R1 ?_;refine e8 2 rfl rfl rfl zA zA (e6 _) rfl F9 rfl AE8 ?_;refine R8 ?_;exact I9 [2] x39 (trivial) rfl Cl4 (j6 rfl E5 (G0 (F5 (ys:=_) 3 rfl rfl K6 C6 rfl) V6))
theorem Cz2 (g:C1)(r:Int)(hs:g.size≤1048576):D6 247 [AV.agg g.cs,AV.int r] (AV.tup [AV.agg (AA1 g r).1.cs,AV.bool (AA1 g r).2]):=
  J5 (DH9 g r hs) fun v _=>AQ7 (D7 (C1.fl _ v) (D7 H9 Z6))
theorem Cz3 (R:List D8)(tm:Int)(k:Nat)(L:D8)(r:N5)(hL:R[k]? =some L)(hs:(C1.mk R tm k).size≤1000000)(hrs:r.size≤1000)(hg:P0 ⟨R,tm,k⟩=true)(hgr:T8 r=true)(hlen:L.Log.length<60):M0 185 [AV.agg (C1.mk R tm k).cs,AV.agg r.cs] [] (fun x:Value×List Value=>x.2.length=R.length) (fun x=> .arr x.1 70 3 (L4 D8.ocs (R.take k) (x.2.take k)++(D8.mk L.Up (L.Log++[⟨tm,r⟩]) L.Sure).cs::L4 D8.ocs (R.drop (k+1)) (x.2.drop (k+1)))::nin D8.ow (R.eraseIdx k) (x.2.eraseIdx k)) (fun x=>AV.tup [AV.agg [AV.is x.1,AV.int tm,AV.int (k:Int)],AV.bool true]):=by
 have hrsz:D2 D8.size R≤1000000:=hs;have hkl:=(G1.1 hL).1;have hld:(C1.mk R tm (k:Int)).Lead=(k:Int):=rfl;have hrl:(C1.mk R tm (k:Int)).Reps.length=R.length:=rfl;refine C8 func185 rfl ntmps185 rfl ?_;refine R3 ?_;intro b2;refine R1 ?_;intro b3;refine R1 ?_;intro b4;refine R6 ?_;refine zF rfl call26 (AJ0 ⟨R,tm,k⟩ qz7) G6 ?_;refine R11 ?_;refine S0 rfl (fun hc=>C2 rfl D4 F9 (A7 rfl hc) (A7 rfl hc) hL qz6) ?_;refine R7 ?_;refine S0 rfl (fun hc=>zG rfl call167 (Az3 r qz7) zS) ?_;refine zC ?_ ?_
 ·intro h31;exfalso;rw[hg,hgr]at h31;simp at h31;omega
 intro h31;refine R4 ?_;refine Av9 [] 3 1 ([]) ([]) (fun zz=>nin D8.ow R zz.2) rfl rfl rfl rfl call180 rfl rfl (show List.Perm ([]) (([])++([]))from List.Perm.refl _) (CN3 ⟨R,tm,k⟩ qz7) G6 (fun a=>O4) ?_;intro x34 ok34;refine R1 ?_;intro b6;refine R3 ?_;have hln:x34.2.length=R.length:=ok34;obtain⟨y,hy⟩:=B2 (show k<x34.2.length by omega);rw[AP6 hL hy];refine AWP.le (U1 5 (t:=([Go.AV.Own.arr y 179 8 (L.Log.map F4.cs)])++(nin D8.ow (R.eraseIdx k) (x34.2.eraseIdx k))) (Ad4 (ow:=D8.ow) hL hy)) ?_;refine R5 ?_;refine A1 rfl (I4 1 rfl D4 F9 zA rfl zA qz7 (by rw[BN2 hL hy hln];omega)) ?_;refine R3 ?_;refine P1 _ [(0,false),(1,false),(2,false),(3,false),(4,false),(5,false),(6,false),(7,false),(8,false),(9,false),(10,false),(11,true)] E3 E3 rfl (U8 5) ?_;refine R2 ?_;refine N0 rfl rfl rfl (fun ext=>j7 1 rfl zA rfl (AC5 (AC9 hL hy)) rfl) ?_;refine zq136 ?_;refine R3 ?_;refine N0 rfl rfl rfl (fun ext=>zG rfl call246 (Bm3 r qz7) G6) ?_;refine R2 ?_;refine zq120 ?_;intro v51_1 _;refine R1 ?_;refine A1 rfl (j7 1 rfl zA rfl (AC5 (AC9 hL hy)) rfl) ?_;refine zq177 ?_;exact H8 [1] 4 (nin D8.ow (R.eraseIdx k) (x34.2.eraseIdx k)) (x34.1,x34.2) (ok34) rfl (by first|rfl|(unfold D8.cs;dsimp only;rw[Y3];rfl)) (j6 rfl E5 (G0 (F5 (ys:=_) 2 rfl rfl K6 C6 rfl) V6))
theorem Cz4 (g:C1)(r:N5)(hs:g.size≤1048576)(hrs:r.size≤1000)(hno:(AE2 g r).2=false):D6 185 [AV.agg g.cs,AV.agg r.cs] (AV.tup [AV.agg AH4.cs,AV.bool false]):=by
 refine B0 func185 rfl ntmps185 rfl ?_;refine R3 ?_;intro b2;refine R1 ?_;intro b3;refine R1 ?_;intro b4;refine R6 ?_;refine zF rfl call26 (AJ0 g hs) G6 ?_;refine R11 ?_;refine S0 rfl (fun hc=>C2 rfl D4 F9 (A7 rfl hc) (A7 rfl hc) (Z3 (Ce8 hc)) (by have h9:=(Ce8 hc).1;omega)) ?_;refine R7 ?_;refine S0 rfl (fun hc=>zG rfl call167 (Az3 r qz7) zS) ?_;refine zC ?_ ?_
 ·intro h31;exact zq222
 intro h31;exact(DH7 hno h31).elim
namespace tw12n1
def tw12x0 :=@Cz3
def tw12x1 :=@Cz4
end tw12n1
open tw12n1 in
theorem CW4 (g:C1)(r:N5)(hs:g.size≤1000000)(hrs:r.size≤1000):D6 185 [AV.agg g.cs,AV.agg r.cs] (AV.tup [AV.agg (AE2 g r).1.cs,AV.bool (AE2 g r).2]):=Cv0
theorem Ci4 (L:D8)(n:Nat)(x:D8)(hn:n≤L.Log.length):D6 302 [AV.agg x.cs,AV.eptr L.cs,AV.eptr [AV.int (n:Int)]] (AV.bool (AQ5 x.Log (L.Log.take n))):=by
  refine B0 Tryz.func302 rfl Tryz.ntmps302 rfl ?_;refine R3 ?_;intro b3;refine R9 ?_;refine B3 rfl rfl (AG5 rfl L3 Q1 zA zA qz7 qz7) ?_;refine B3 rfl rfl (zG rfl Tryz.call27 (Ap9 x.Log (L.Log.take n)) F3) ?_;exact zq218
end Go.PQ
namespace Go.PQ
open Go.Proofs Go.Proofs.Tryz
open Go Go.AV Go.M
attribute [local irreducible] OpW OpA OpS AWP J6 L6 K3 OpE K4 I5 L0 Le Ev G4 L9 Y8 Int.tmod Int.tdiv IntKind.wrap T3
theorem Cz5 (g:C1)(hs:g.size≤1048576):M0 248 [AV.agg g.cs] [] (fun _:Value=>True) (fun v=>C1.fow (AK4 g).1 v) (fun v=>AV.tup [AV.agg (C1.fcs (AK4 g).1 v),AV.bool (AK4 g).2]):=by
 have hrs:D2 D8.size g.Reps≤1048576:=hs;have hgl:g.Reps.length≤1048576:=L7 M7 hrs;refine C8 func248 rfl ntmps248 rfl ?_;refine R3 ?_;intro b1;refine R1 ?_;intro b2;refine R6 ?_;refine zF rfl call26 (AJ0 g hs) G6 ?_;refine zC ?_ ?_
 ·intro h14;have he:AK4 g=(AH4,false):=qz156;rw[he];exact zq181
 intro h14;have hh:=h14;simp only[v9,AD1,AB8]at hh;have hlead:AS2 g=true:=(by unfold AS2;rw[hh.1,W6 qz7];rfl);obtain⟨gg,l0,l1,hup⟩:=Ab8.1 hlead;have hxl:=Z3 ⟨l0,l1⟩;have hgr:=gg.reps _ (AE6 ⟨l0,l1⟩);obtain⟨L,hL⟩:∃L,M3 g g.Lead=L:=⟨_,rfl⟩;rw[hL]at hxl hgr;have hsr:=hgr.sure;have hl6:=hgr.len;refine R4 ?_;refine zI [] rfl call180 (BE4 g hs) G6 rfl ?_;intro x17 ok17;refine R1 ?_;intro b4;refine R8 ?_;refine zq148 ?_;intro b5;refine R9 ?_;intro b6;refine R3 ?_;refine zL [0,0,0,2,0] ?_;refine K5 [(1,_),(2,_),(3,_),(4,_),(5,_)] _ (fun (n:Nat) (bq:Nat)=>n≤L.Log.length∧y8 (AQ3 g) L.Sure.toNat L.Log.length=y8 (AQ3 g) L.Sure.toNat n) (fun n bq=>[.box bq 3 [AV.int n],.box b5 70 L.cs,.box b4 38 (C1.fcs g x17),.box b1 38 g.cs,.arr x17 70 3 (g.Reps.map D8.cs)]) (fun n bq=>[(6,AV.ptr bq 0)]) (fun n bq=>n) (L.Log.length) (b6) ?_ (I1 (by (rw[show (List.map F4.cs L.Log).length=L.Log.length from A8 _];rfl)) A6) ?_
 ·exact⟨K9 _,rfl⟩
 intro n bq hinv;refine zK ?_ ?_
 ·intro h30 k30;have hgt:L.Sure.toNat<n:=by omega
  obtain⟨x,hx⟩:=B2 (show n-1<L.Log.length by omega);have hx2:L.Log[((n:Int)-1).toNat]? =some x:=(by rw[show ((n:Int)-1).toNat=n-1 by omega];exact hx);have hadv:AQ3 g n=((x.Term==g.Term)&&BK1 g fun x=>AQ5 x.Log (L.Log.take n)):=(by unfold AQ3;rw[hL,hx,AD8];congr 1<;>first|(rw[AI1,H6,m6];exact⟨fun e=>by injection e,fun e=>by rw[e]⟩)|(congr 1;funext y;rw[DH8 hinv.1]));refine R9 ?_;refine B3 rfl rfl (C2 rfl L3 Q1 zA zA hx2 qz7) ?_;refine R7 ?_;refine M1 rfl (Q3 rfl rfl rfl) (fun hc=>Ag8 rfl rfl F3) ?_;refine M1 rfl (Q3 rfl rfl rfl) (fun hc=>n2 rfl call177 rfl (CA5 g (fun _=>True) (fun x=>AQ5 x.Log (L.Log.take n)) hgl (fun _ _=>trivial)) (T9 _) (N7 (evb (A7 rfl hc)) (N7 (AC7 (Bf6 1 0 (A7 rfl hc) rfl rfl) (AL4 call302 (fun x h=>Ci4 L n x qz7))) o8))) ?_;refine zC ?_ ?_
  ·intro h47;have hp:AQ3 g n=true:=(by rw[hadv];simpa using h47);have hfin:y8 (AQ3 g) L.Sure.toNat L.Log.length=some n:=(by rw[hinv.2];exact Br5 hgt hp);have he:AK4 g=(AW7 g g.Lead ⟨L.Up,L.Log,(n:Int)⟩,true):=Ck4;rw[he];refine R7 ?_;refine A1 rfl (I4 4 rfl D4 F9 zA rfl zA qz7 AF7) ?_;refine A1 rfl (O1 4 rfl q6 rfl E9 zA rfl rfl qz36) ?_;refine q9 4 rfl rfl rfl zA zA (X2 _ _) rfl E9 qz36 rfl ?_;refine R9 ?_;exact I9 [4] x17 (trivial) rfl CQ4 (j6 rfl E5 (G0 (F5 (ys:=_) 5 rfl rfl K6 C6 rfl) V6))
  intro h47;have hp:¬AQ3 g n=true:=(by rw[hadv];simpa using h47);have hdown:y8 (AQ3 g) L.Sure.toNat L.Log.length=y8 (AQ3 g) L.Sure.toNat (n-1):=(by rw[hinv.2];exact Bz3 hgt hp);refine R8 ?_;intro b6;refine R7 ?_;refine H5 n bq (n-1) (b6) ?_ ?_ (Le.trans (B4 [1,0,0,0,0,0] rfl) (D5 1 (by (rw[show ((n-1:Nat):Int)=(n:Int)-1 from by omega];rfl)) A6))
  ·exact⟨by omega,hdown⟩
  omega
 intro h30 k30;have hfin:y8 (AQ3 g) L.Sure.toNat L.Log.length=none:=qz211;have he:AK4 g=(g,true):=Ck4;rw[he];refine R8 ?_;exact I9 [4] x17 (trivial) rfl CQ4 (j6 rfl E5 (G0 (F5 (ys:=_) 5 rfl rfl K6 C6 rfl) V6))
theorem Ci5 (g:C1)(hs:g.size≤1048576):D6 248 [AV.agg g.cs] (AV.tup [AV.agg (AK4 g).1.cs,AV.bool (AK4 g).2]):=
  J5 (Cz5 g hs) fun v _=>AQ7 (D7 (C1.fl _ v) (D7 H9 Z6))
structure WXI where
  cl:Value
  gr:Value
  lo:Value
  pr:Value
def WNI (b:Nat)(cuts:List Str)(n:Nat)(gs:List C1)(X:WXI):List Go.AV.Own:=
  [.box b 32 [AV.int 0,AV.int 0,AV.is X.cl,strs cuts,AV.is X.gr,AV.is X.lo,AV.is X.pr,AV.nils,AV.nils],.arr X.cl 102 1 ((List.replicate (3*n) (⟨0⟩:S6)).map S6.cs),.arr X.gr 38 3 (gs.map C1.cs),.arr X.lo 105 1 ((List.replicate n ([]:List G9)).map fun l=>[AV.list 3 (l.map G9.cs)]),.arr X.pr 3 1 ((List.replicate n (0:Int)).map fun n=>[AV.int n])]
theorem Bj6 :nG0.size≤1000∧nG1.size≤1000∧nG2.size≤1000∧nG3.size≤1000∧nG4.size≤1000∧nG5.size≤1000:=by decide
theorem Dg5 (r:Nat):(spN r).size≤1000:=by
  rcases r with _|_|_|r
  ·exact Bj6.2.2.1
  ·exact Bj6.2.2.1
  ·exact Bj6.2.2.2.1
  ·exact Bj6.2.2.2.2.1
theorem DI0 (b:Nat)(cuts:List Str)(n:Nat)(gs:List C1)(X:WXI)(g:Int)(h0:0≤g)(hx:gs[g.toNat]? =some nG2)(hn:gs.length≤3):M0 186 [AV.ptr b 0,AV.int g] (WNI b cuts n gs X) (fun _:Unit=>True) (fun _=>WNI b cuts n (gs.set g.toNat nG5) X) (fun _=>AV.tup []):=by
 have hgl:=(G1.1 hx).1;refine C8 func186 rfl ntmps186 rfl ?_;refine R6 ?_;refine zL [2] ?_;refine K5 [(0,_),(1,_)] _ (fun (r:Nat) (v:C1)=>r≤3∧v=spN r) (fun r v=>[.arr X.gr 38 3 ((gs.set g.toNat v).map C1.cs)]) (fun r v=>[(9,AV.int r)]) (fun r v=>3-r) (0) (nG2) ?_ (I1 (by (rw[BS8 hx];rfl)) A6) ?_
 ·exact zq4
 intro r v hinv;have hvs:v.size≤1000:=(by rw[hinv.2];exact Dg5 r);refine zK ?_ ?_
 ·intro h10 k10;refine R15 ?_;refine zq73 ?_;refine R1 ?_;refine zF rfl call247 (Cz2 v r qz7) F3 ?_;refine R4 ?_;intro b5;refine zC ?_ ?_
  ·intro h24;refine J3 7 E3 E3 rfl ?_;refine R6 ?_;refine zq52 ?_;refine R5 ?_;refine H5 r v (r+1) ((AA1 v r).1) ?_ ?_ (Le.trans (B4 [0,0] rfl) (D5 1 Ck5 A6))
   ·exact⟨by omega,by rw[hinv.2]at h24⊢;exact DM0 qz7 h24⟩
   omega
  intro h24;refine R5 ?_;refine H5 r v (r+1) (v) ?_ ?_ (Le.trans (B4 [0,0] rfl) (D5 1 Ck5 A6))
  ·exact⟨by omega,by have h9:=hinv.2;rw[h9]at h24;rw[h9];exact spN_no qz7 (by simpa using h24)⟩
  omega
 intro h10 k10;refine R8 ?_;refine zq73 ?_;refine zF rfl call248 (Ci5 v qz7) G6 ?_;refine R4 ?_;intro b7;refine zC ?_ ?_
 ·intro h44;have hv5:(AK4 v).1=nG5:=(by rw[hinv.2,show r=3 by omega];decide);rw[←hv5];refine J3 7 E3 E3 rfl ?_;refine R6 ?_;refine zq52 ?_;refine R1 ?_;exact I9 [2,2,1,1,1] () (trivial) rfl (by (unfold WNI;rw[←AF4,BH9];rfl)) Ba0
 intro h44
 (exfalso;rw[hinv.2,show r=3 by omega]at h44;exact absurd h44 E5)
theorem putN_own (b:Nat)(cuts:List Str)(n:Nat)(gs:List C1)(X:WXI)(g:Int)(h0:0≤g)(hx:gs[g.toNat]? =some nG1)(hn:gs.length≤3):M0 116 [AV.ptr b 0,AV.int g,AV.agg BU1.cs] (WNI b cuts n gs X) (fun _:Unit=>True) (fun _=>WNI b cuts n (gs.set g.toNat nG5) X) (fun _=>AV.bool true):=by
 have hgl:=(G1.1 hx).1;have hsp:=DI0 b cuts n (gs.set g.toNat nG2) X g h0 (B9 hx) (by rw[a9];exact hn);refine C8 func116 rfl ntmps116 rfl ?_;refine R3 ?_;intro b5;refine R3 ?_;refine Z9 _ 14 (.pure 0 (.pure 1 (.pure 2 (.pure 3 (.pure 4 (.pure 5 (.pure 6 (.pure 7 (.pure 8 (.pure 9 (.pure 10 (.pure 11 (.e1 12 (.e1 13 .nil)))))))))))))) E3 E3 rfl AZ1 ?_;refine R5 ?_;refine N8 rfl rfl rfl (fun ext=>I4 3 rfl F8 C6 (A0 rfl) rfl (A0 rfl) qz7 AF7) ?_;refine N8 rfl rfl rfl (fun ext=>r5 3 rfl (A0 rfl) rfl K6 C6 qz5 E5) ?_;refine R1 ?_;refine N8 rfl rfl rfl (fun ext=>A4 rfl call185 rfl (CW4 nG1 BU1 E5 E5) F3) ?_;refine R4 ?_;refine F7 rfl rfl rfl (S4 rfl zeroValue38 rfl) (fun a _=>qz3) ?_;intro b7 _;refine R1 ?_;refine AZ3 rfl rfl rfl (AB5 6 rfl rfl (A0 rfl) (A0 rfl) (e6 _) rfl C6 rfl) (fun a _=>qz3) ?_;intro _ _;refine R9 ?_;refine A3 ?_ ?_
 ·intro h22;exact absurd h22 E5
 intro h22;refine R2 ?_;refine J3 7 E3 E3 rfl ?_;refine R6 ?_;refine B3 rfl rfl (I4 3 rfl F8 C6 (A0 rfl) rfl (A0 rfl) qz7 AF7) ?_;refine R1 ?_;refine e8 3 rfl rfl rfl (A0 rfl) (A0 rfl) (e6 _) rfl C6 rfl AF7 ?_;refine R2 ?_;simp only[←AF4];refine R3 ?_;refine G8 [1,1,1,1,1] rfl rfl rfl rfl call186 rfl (hsp) F3 rfl ?_;intro x32 ok32;refine R6 ?_;exact I9 [0,0,0,0,0] () (trivial) rfl (by (unfold WNI;rw[BH9];rfl)) Q4
theorem CW5 :D6 114 [AV.agg nG1.cs] (AV.agg V0.cs):=by
  refine B0 func114 rfl ntmps114 rfl ?_;refine R3 ?_;intro b1;refine R1 ?_;intro b2;refine R7 ?_;refine A1 rfl (C2 rfl D4 F9 zA zA (show nG1.Reps[(0:Int).toNat]? =some ⟨true,[],0⟩from rfl) E5) ?_;refine R2 ?_;refine zF rfl call144 (Bt0 [] E5 (fun e he=>by cases he)) G6 ?_;refine R3 ?_;exact D1 rfl (F5 (ys:=_) 0 rfl rfl S5 K8 rfl)
theorem DW6 (w:C7)(node:Int)(hn:0≤node)(hc:w.Clocks[node.toNat]? =some ⟨0⟩)(h0:w.Now=0):D6 115 [AV.agg w.cs,AV.int node] (AV.agg (AB3 ⟨0⟩ 0).cs):=by
 refine B0 func115 rfl ntmps115 rfl ?_;refine R3 ?_;intro b2;refine R1 ?_;intro b4;refine R2 ?_;refine J3 8 E3 E3 rfl ?_;refine R3 ?_;refine B3 rfl rfl (C2 rfl J0 u6 zA zA hc qz7) ?_;refine R3 ?_;rw[h0];refine B3 rfl rfl (zG rfl call184 (De5 ⟨0⟩ 0 E5 E5) F3) ?_;refine R4 ?_;exact D1 rfl (F5 (ys:=_) 0 rfl rfl Ae2 AY5 rfl)
theorem leadN :BX5 V0 (AB3 ⟨0⟩ 0)=(15,true):=by
  unfold BX5;rw[CV0];decide
theorem CN4 :D6 113 [AV.agg V0.cs,AV.agg (AB3 ⟨0⟩ 0).cs] (AV.tup [AV.int 15,AV.bool true]):=by
  have h:=CU8 V0 (AB3 ⟨0⟩ 0) E5;rw[leadN]at h;exact h
def wNI (cuts:List Str)(n:Nat)(gs:List C1):C7:=⟨0,0,List.replicate (3*n) ⟨0⟩,cuts,gs,List.replicate n [],List.replicate n 0,[],[]⟩
theorem wNI_lend (b:Nat)(cuts:List Str)(n:Nat)(gs:List C1)(X:WXI){own:List Go.AV.Own}(h:∀o∈WNI b cuts n gs X,o∈own):AQ9 own (AV.agg [AV.int 0,AV.int 0,AV.is X.cl,strs cuts,AV.is X.gr,AV.is X.lo,AV.is X.pr,AV.nils,AV.nils]) (AV.agg (wNI cuts n gs).cs):=
  AO7 (D7 H9 (D7 H9 (D7 (K2 (h _ (C3 (i:=1) rfl)) G3) (D7 H9 (D7 (K2 (h _ (C3 (i:=2) rfl)) G3) (D7 (K2 (h _ (C3 (i:=3) rfl)) G3) (D7 (K2 (h _ (C3 (i:=4) rfl)) G3) (D7 BC8 (D7 BC8 Z6)))))))))
theorem setR {α:Type}{n i:Nat}{x:α}:(List.replicate n x).set i x=List.replicate n x:=by
  rw[List.eq_replicate_iff];refine⟨by rw[a9,w3],fun b hb=> ?_⟩;rcases List.mem_or_eq_of_mem_set hb with h|h
  ·exact(AE0.1 h).2
  ·exact h
theorem DW7 (b:Nat)(cuts:List Str)(n:Nat)(X:WXI)(g:Nat)(hg:g<n)(hn:n≤3):M0 43 [AV.ptr b 0,AV.int (3*(g:Int))] (WNI b cuts n (AX8 n g) X) (fun _:Unit=>True) (fun _=>WNI b cuts n (AX8 n (g+1)) X) (fun _=>AV.bool true):=by
 obtain⟨q,hq⟩:∃q:Int,(g:Int)=q:=⟨_,rfl⟩;have h1:Int.tdiv (3*(g:Int)) 3=q:=by rw[Int.mul_tdiv_cancel_left _ E5];exact hq
 have h2:Int.tmod (3*(g:Int)) 3=0:=by rw[Int.tmod_eq_emod_of_nonneg qz7];omega
 have hq0:0≤q:=by omega
 have hqg:q.toNat=g:=by omega
 have hx:(AX8 n g)[q.toNat]? =some nG0:=by rw[hqg];exact Cu0 hg
 have hln:=Dc7 (n:=n) (i:=g) qz7;have hwq:IntKind.i64.wrap q=q:=BR1 qz7;have hsl:((List.replicate n ([]:List G9)).map fun l=>[AV.list 3 (l.map G9.cs)]).set q.toNat [AV.list 3 []]=(List.replicate n ([]:List G9)).map fun l=>[AV.list 3 (l.map G9.cs)]:=by rw[List.map_replicate];exact setR
 have hsp:((List.replicate n (0:Int)).map fun n=>[AV.int n]).set q.toNat [AV.int 0]=(List.replicate n (0:Int)).map fun n=>[AV.int n]:=by rw[List.map_replicate];exact setR
 have hpk:=putN_own b cuts n ((AX8 n g).set q.toNat nG1) X q hq0 (B9 hx) (by rw[a9];omega);refine C8 func43 rfl ntmps43 rfl ?_;refine R7 ?_;refine A1 rfl (Cl7 rfl zA L1 qz1) ?_;refine R3 ?_;simp only[h1,hwq];refine R6 ?_;refine A1 rfl (I4 2 rfl F8 C6 zA rfl zA qz7 Be6) ?_;refine A1 rfl (r5 2 rfl zA rfl K6 C6 qz5 E5) ?_;refine R1 ?_;refine A1 rfl (BM8 rfl zA L1 qz1) ?_;simp only[h2];refine zF rfl call112 (CW3 nG0 0 E5) F3 ?_;refine R4 ?_;intro b6;refine zC ?_ ?_
 ·intro h26;exact absurd h26 E5
 intro h26;refine R2 ?_;refine J3 7 E3 E3 rfl ?_;refine R6 ?_;refine B3 rfl rfl (I4 3 rfl F8 C6 zA rfl zA qz7 Be6) ?_;refine R1 ?_;refine e8 3 rfl rfl rfl zA zA (e6 _) rfl C6 rfl Be6 ?_;refine R8 ?_;refine A1 rfl (I4 4 rfl K1 i8 zA rfl zA qz7 Be6) ?_;refine e8 4 rfl rfl rfl zA (j0 (sz:=3)) (S8 _ _) rfl i8 rfl Be6 ?_;refine R8 ?_;refine A1 rfl (I4 5 rfl D3 E9 zA rfl zA qz7 Be6) ?_;refine e8 5 rfl rfl rfl zA L1 (X2 _ _) rfl E9 rfl Be6 ?_;refine R3 ?_;refine H3 ((show _=[Go.AV.Own.box b6 38 nG1.cs,.box b 32 [AV.int 0,AV.int 0,AV.is X.cl,strs cuts,AV.is X.gr,AV.is X.lo,AV.is X.pr,AV.nils,AV.nils],.arr X.cl 102 1 ((List.replicate (3*n) (⟨0⟩:S6)).map S6.cs),.arr X.gr 38 3 (((AX8 n g).map C1.cs).set q.toNat nG1.cs),.arr X.lo 105 1 (((List.replicate n ([]:List G9)).map fun l=>[AV.list 3 (l.map G9.cs)]).set q.toNat [AV.list 3 []]),.arr X.pr 3 1 (((List.replicate n (0:Int)).map fun n=>[AV.int n]).set q.toNat [AV.int 0])]from rfl).trans (show _=Go.AV.Own.box b6 38 nG1.cs::WNI b cuts n ((AX8 n g).set q.toNat nG1) X from(by unfold WNI;rw[hsl,hsp,←AF4]))) ?_;refine R2 ?_;refine B3 rfl rfl (zG rfl call114 (CW5) G6) ?_;refine R4 ?_;refine B3 rfl rfl (n2 rfl call115 rfl (DW6 (wNI cuts n ((AX8 n g).set q.toNat nG1)) (3*(g:Int)) qz7 (by show (List.replicate (3*n) (⟨0⟩:S6))[(3*(g:Int)).toNat]? =some ⟨0⟩;rw[List.getElem?_replicate,D9 qz7]) rfl) (flat_agg (I8 (n7 _ _) (I8 (n7 _ _) W9))) (N7 (Ai1 zA (wNI_lend b cuts n _ X fun o ho=>U5 _ ho)) Ax6)) ?_;refine B3 rfl rfl (zG rfl call113 (CN4) F3) ?_;refine zC ?_ ?_
 ·intro h57;refine R5 ?_;refine zI [1,1,1,1,1] rfl call116 (hpk) (A2 zA (A2 zA (A2 (AU6 zA (Ap7 (k:=4) (t:=0) (tm:=15) (l:=0) (y:=false))) A9))) rfl ?_;intro x62 ok62;refine R6 ?_;exact I9 [0,0,0,0,0] () (trivial) rfl (by (unfold WNI;rw[BH9,hqg,Cc2 hg];rfl)) Q4
 intro h57
 cases h57
theorem Ci6 (g:C1)(e:F4):D6 129 [AV.agg e.cs,AV.eptr g.cs] (AV.bool (e.Term==g.Term)):=by
  refine B0 func129 rfl ntmps129 rfl ?_;refine R3 ?_;intro b2;refine R12 ?_;exact zq3
theorem Ci7 (g:C1)(gg:GG g):D6 58 [AV.agg g.cs] (AV.bool (DA2 g)):=by
  have hld:=gg.lead;refine B0 func58 rfl ntmps58 rfl ?_;refine R3 ?_;intro b1;refine R12 ?_;refine L5 rfl (fun hc=>C2 rfl D4 F9 (A7 rfl hc) (A7 rfl hc) (Z3 (g:=g) (r:=g.Lead) BF7) BF7) ?_;refine R1 ?_;refine L5 rfl (fun hc=>zG rfl call28 (Ah7 (M3 g g.Lead) (gg.reps _ (AE6 BF7)).sure) (A2 (A7 rfl hc) A9)) ?_;refine L5 rfl (fun hc=>Ag8 rfl rfl G6) ?_;refine L5 rfl (fun hc=>n2 rfl call128 rfl (BZ1 (AN3 (M3 g g.Lead)) (fun _=>True) (fun e=>e.Term==g.Term) (fun _ _=>trivial)) (T9 _) (N7 (evb (A7 rfl hc)) (N7 (AC7 (AV7 0 (A7 rfl hc) rfl) (AL4 call129 (fun e (_:True)=>Ci6 g e))) o8))) ?_;refine R4 ?_;exact zq3
theorem Ci8 (g:C1)(hs:g.size≤1048576)(hg:P0 g=true):D6 14 [AV.agg g.cs] (AV.tup [AV.bool (DA2 g),AV.bool true]):=by
 refine B0 func14 rfl ntmps14 rfl ?_;refine R3 ?_;intro b1;refine R7 ?_;refine zF rfl call26 (AJ0 g hs) G6 ?_;refine zC ?_ ?_
 ·intro h6
  (exfalso;rw[hg]at h6;cases h6)
 intro h6;refine R4 ?_;refine zF rfl call58 (Ci7 g (o9.1 hg)) G6 ?_;refine R4 ?_;exact zq111
namespace tw1n13
def Al1 :=@Tryz.func108
def Al2 :=@Tryz.ntmps108
def Al3 :=@Tryz.underlying41
def Al4 :=@Tryz.sizeOf84
end tw1n13
open tw1n13 in
theorem Bx7 (l:List (List TOp))(pre:List TOp→Prop)(f:List TOp→Bool)(hp:∀x∈l,pre x):D6 108 [AV.list 1 (l.map fun x=>[AV.list 4 (x.map TOp.cs)]),AV.fun1 Tryz.prog pre (fun a=>AV.list 4 (a.map TOp.cs)) (fun a=>AV.bool (f a))] (AV.int (idxFrom f l 0)):=AR8
theorem BA3 (l:List (List TOp))(pre:List TOp→Prop)(f:List TOp→Bool)(hp:∀x∈l,pre x):D6 35 [AV.list 1 (l.map fun x=>[AV.list 4 (x.map TOp.cs)]),AV.fun1 Tryz.prog pre (fun a=>AV.list 4 (a.map TOp.cs)) (fun a=>AV.bool (f a))] (AV.bool (l.any f)):=by
  refine B0 Tryz.func35 rfl Tryz.ntmps35 rfl ?_;refine R8 ?_;refine zF rfl Tryz.call108 (Bx7 l pre f hp) F3 ?_;refine R4 ?_;exact D1 rfl (A5 rfl (by exact F2 AV.bool (BG8 f l 0 (Int.le_refl 0))))
theorem Bd0 (l:List TOp)(hs:D2 TOp.size l≤1048576):D6 36 [AV.list 4 (l.map TOp.cs)] (AV.bool (!(n8 l&&decide (0<(l.length:Int))))):=by
  refine B0 Tryz.func36 rfl Tryz.ntmps36 rfl ?_;refine R7 ?_;refine zF rfl Tryz.call37 (Bc7 l hs) G6 ?_;refine R4 ?_;exact zq3
theorem CW6 (l:List Str)(hs:∀k∈l,k.length≤12):D6 39 [strs l] (AV.bool (!AP4 l)):=by
  refine B0 Tryz.func39 rfl Tryz.ntmps39 rfl ?_;refine R7 ?_;refine zF rfl Tryz.call40 (BT0 l hs) G6 ?_;refine R4 ?_;exact zq3
end Go.PQ
namespace Go.AV
theorem w_intc {P:Program}{G:Nat→Prop}{n:Nat}{own:List Go.AV.Own}{o:Oper}{E:P3}{a:Int}(b:Int)(h:OpW P G n own o E (AV.int a))(e:a=b):OpW P G n own o E (AV.int b):=e▸h
end Go.AV
namespace Go.PQ
open Go.Proofs Go.Proofs.Tryz
open Go Go.AV Go.M
attribute [local irreducible] OpW OpA OpS AWP J6 L6 K3 OpE K4 I5 L0 Le Ev G4 L9 Y8 Int.tmod Int.tdiv IntKind.wrap T3
theorem BM1 (l:List Str)(hl:l.length≤4194304):D6 41 [strs l] (strs l):=J5 (Ah4 l hl) fun v _=>K2 (i6.2 rfl) G3
theorem Ci9 (l:List TOp)(hl:l.length≤4194304):D6 44 [AV.list 4 (l.map TOp.cs)] (AV.list 4 (l.map TOp.cs)):=J5 (Cr7 l hl) fun v _=>K2 (i6.2 rfl) G3
theorem Cj0 (cuts:List Str)(ps:List (List TOp))(ls:List (List Str))(h:BC1 cuts ps ls):M0 11 [strs cuts,AV.list 1 (ps.map fun l=>[AV.list 4 (l.map TOp.cs)]),AV.list 1 (ls.map fun l=>[strs l])] [] (fun v:C7×Bool=>v=nWR cuts ps ls) (fun _=>[]) (fun v=>AV.tup [AV.agg v.1.cs,AV.bool v.2]):=by
 have hcl:=h.cuts.2.1;have hpl:=h.ps.1;have hll:=h.ls.1;obtain⟨N,hN⟩:∃N,cuts.length+1=N:=⟨_,rfl⟩;have hcb:∀k∈cuts,k.length≤4611686018427387904:=fun k hk=>L7 (h.cuts.2.2 k hk) E5;obtain⟨P9,hP9⟩:∃P9,ps.map (BF1 N)=P9:=⟨_,rfl⟩;obtain⟨Q9,hQ9⟩:∃Q9,AX4 N ls ls.length=Q9:=⟨_,rfl⟩;have hP9l:P9.length=ps.length:=by rw[←hP9,A8]
 have hQ9l:Q9.length=ls.length:=by rw[←hQ9,Az6]
 refine C8 func11 rfl ntmps11 rfl ?_;refine R3 ?_;intro b6;refine R10 ?_;refine S0 rfl (fun hc=>zG rfl call34 (BL4 cuts hcb) zS) ?_;refine R9 ?_;refine S0 rfl (fun hc=>zG rfl call35 (BA3 ps (fun l=>D2 TOp.size l≤1048576) BX6 (fun p hp=>(BJ7 (h.ps.2 p hp).1).1)) (A2 (A7 rfl hc) (A2 (BC6 call36 (fun l h=>Bd0 l h)) A9))) ?_;refine zC ?_ ?_
 ·intro h33;have hbad:ps.any BX6=true:=(by simp only[h.cuts.1,A8]at h33;simp at h33;rcases h33 with h33|h33;(omega);(simpa using h33));have hno:nWR cuts ps ls=(Af0,false):=(by unfold nWR;rw[nw_bad (cuts:=cuts) (fun p hp=>(h.ps.2 p hp).1) hbad];rfl);refine zq94 ?_;exact I9 [] ((Af0,false)) (qz217) rfl B7 (j6 rfl E5 (G0 (F5 (ys:=_) 0 rfl rfl V5 P4 rfl) V6))
 intro h33;have hok:ps.any BX6=false:=(by simp only[v9]at h33;exact h33.2);have hwr:nWR cuts ps ls=(nW cuts ps ls,true):=D9 (nw_good hok);refine R9 ?_;refine S0 rfl (fun hc=>zG rfl call38 (BS0 ls (fun l=>∀k∈l,k.length≤12) badLI (fun l hl k hk=>by have:=(AL9 ((h.ls.2 l hl).2.2 k hk)).2;omega)) (A2 (A7 rfl hc) (A2 (BC6 call39 (fun l h=>CW6 l h)) A9))) ?_;refine zC ?_ ?_
 ·intro h41
  (exfalso;rw[nw_looks (fun l hl=>CA4 (h.ls.2 l hl).1 (h.ls.2 l hl).2.2 (h.ls.2 l hl).2.1),A8]at h41;simp at h41;omega)
 intro h41;refine zq223 ?_;refine Co5 [(1,_),(2,_),(6,_),(7,_),(8,_)] A6 (fun (b9:Nat) (cv:Value) (lv:Value) (pv:Value)=>[.box b9 32 [AV.int 0,AV.int 0,AV.is cv,strs cuts,AV.nils,AV.is lv,AV.is pv,AV.nils,AV.nils],.box b6 32 (List.map m7 (Value.agg #[Value.int IntKind.i64 0,Value.int IntKind.i64 0,E6,E6,E6,E6,E6,E6,E6]).cells.toList),.arr cv 102 1 (List.replicate (3*N) [AV.int 0]),.arr lv 105 1 (List.replicate N [AV.nils]),.arr pv 3 1 (List.replicate N [AV.int 0])]) (fun (b9:Nat) (cv:Value) (lv:Value) (pv:Value)=>[(9,AV.ptr b9 0)]) ?_ ?_
 ·skip
  refine CE5 [] 11 (.pure 0 (.pure 1 (.pure 3 (.pure 4 (.pure 5 (.pure 7 (.br 2 (.br 6 (.br 8 (.pure 9 (.br 10 .nil .nil)) (.br 10 (.br 8 (.pure 9 .nil) .nil) .nil)) (.br 8 (.br 6 (.pure 9 (.br 10 .nil .nil)) (.br 10 (.br 6 (.pure 9 .nil) .nil) .nil)) (.br 10 (.br 6 (.br 8 (.pure 9 .nil) .nil) (.br 8 (.br 6 (.pure 9 .nil) .nil) .nil)) .nil))) (.br 6 (.br 2 (.br 8 (.pure 9 (.br 10 .nil .nil)) (.br 10 (.br 8 (.pure 9 .nil) .nil) .nil)) (.br 8 (.br 2 (.pure 9 (.br 10 .nil .nil)) (.br 10 (.br 2 (.pure 9 .nil) .nil) .nil)) (.br 10 (.br 2 (.br 8 (.pure 9 .nil) .nil) (.br 8 (.br 2 (.pure 9 .nil) .nil) .nil)) .nil))) (.br 8 (.br 2 (.br 6 (.pure 9 (.br 10 .nil .nil)) (.br 10 (.br 6 (.pure 9 .nil) .nil) .nil)) (.br 6 (.br 2 (.pure 9 (.br 10 .nil .nil)) (.br 10 (.br 2 (.pure 9 .nil) .nil) .nil)) (.br 10 (.br 2 (.br 6 (.pure 9 .nil) .nil) (.br 6 (.br 2 (.pure 9 .nil) .nil) .nil)) .nil))) (.br 10 (.br 2 (.br 6 (.br 8 (.pure 9 .nil) .nil) (.br 8 (.br 6 (.pure 9 .nil) .nil) .nil)) (.br 6 (.br 2 (.br 8 (.pure 9 .nil) .nil) (.br 8 (.br 2 (.pure 9 .nil) .nil) .nil)) (.br 8 (.br 2 (.br 6 (.pure 9 .nil) .nil) (.br 6 (.br 2 (.pure 9 .nil) .nil) .nil)) .nil))) .nil)))))))))) E3 E3 rfl BC9 ?_;refine Y4 rfl rfl rfl (fun ext=>Ba1 rfl zA) ?_;refine Y4 rfl rfl rfl (fun ext=>CM2 (a:=3*((N:Nat):Int)) (3*N) (Ad0 rfl L1 zA qz7) qz7) ?_;refine Y4 rfl rfl rfl (fun ext=>Ba1 rfl zA) ?_;refine Y4 rfl rfl rfl (fun ext=>zG rfl call41 (BM1 _ qz7) (A2 (A0 rfl) A9)) ?_;refine Y4 rfl rfl rfl (fun ext=>Ba1 rfl zA) ?_;refine Y4 rfl rfl rfl (fun ext=>Ba1 rfl zA) ?_;refine T0 ?_<|T0 ?_<|T0 ?_<|T0 ?_<|i3
  ·refine zq211 ?_;intro v48 hone_v48;have one_v48:=hone_v48.2;refine T0 ?_<|T0 ?_<|T0 ?_<|i3
   ·refine zq24 ?_;intro v52 hone_v52;have one_v52:=hone_v52.2;refine T0 ?_<|T0 ?_<|i3
    ·refine zq7 ?_;intro v54 hone_v54;have one_v54:=hone_v54.2;refine zq0 ?_;refine T0 ?_ i3;refine zq2 ?_;intro b9 _;refine AA6 ?_;refine R2 ?_;exact⟨b9,v48,v52,v54,Le.trans (B4 [4,0,0,0,0] rfl) (D5 0 B7 A6)⟩
    refine zq2 ?_;intro b9 _;refine T0 ?_ i3;refine zq19 ?_;intro v54 hone_v54;have one_v54:=hone_v54.2;refine zq47 ?_;exact⟨b9,v48,v52,v54,Le.trans (B4 [3,0,0,0,0] rfl) (D5 0 B7 A6)⟩
   ·refine zq29 ?_;intro v54 hone_v54;have one_v54:=hone_v54.2;refine T0 ?_<|T0 ?_<|i3
    ·refine zq5 ?_;intro v52 hone_v52;have one_v52:=hone_v52.2;refine zq0 ?_;refine T0 ?_ i3;refine zq2 ?_;intro b9 _;refine AA6 ?_;refine R2 ?_;exact⟨b9,v48,v52,v54,Le.trans (B4 [4,0,0,1,0] rfl) (D5 0 B7 A6)⟩
    refine zq2 ?_;intro b9 _;refine T0 ?_ i3;refine zq17 ?_;intro v52 hone_v52;have one_v52:=hone_v52.2;refine zq47 ?_;exact⟨b9,v48,v52,v54,Le.trans (B4 [3,0,0,1,0] rfl) (D5 0 B7 A6)⟩
   refine zq2 ?_;intro b9 _;refine T0 ?_<|T0 ?_<|i3
   ·refine zq5 ?_;intro v52 hone_v52;have one_v52:=hone_v52.2;refine T0 ?_ i3;refine zq19 ?_;intro v54 hone_v54;have one_v54:=hone_v54.2;refine zq47 ?_;exact⟨b9,v48,v52,v54,Le.trans (B4 [2,0,0,0,0] rfl) (D5 0 B7 A6)⟩
   refine zq7 ?_;intro v54 hone_v54;have one_v54:=hone_v54.2;refine T0 ?_ i3;refine zq17 ?_;intro v52 hone_v52;have one_v52:=hone_v52.2;refine zq47 ?_;exact⟨b9,v48,v52,v54,Le.trans (B4 [2,0,0,1,0] rfl) (D5 0 B7 A6)⟩
  ·refine zq209 ?_;intro v52 hone_v52;have one_v52:=hone_v52.2;refine T0 ?_<|T0 ?_<|T0 ?_<|i3
   ·refine zq25 ?_;intro v48 hone_v48;have one_v48:=hone_v48.2;refine T0 ?_<|T0 ?_<|i3
    ·refine zq7 ?_;intro v54 hone_v54;have one_v54:=hone_v54.2;refine zq0 ?_;refine T0 ?_ i3;refine zq2 ?_;intro b9 _;refine AA6 ?_;refine R2 ?_;exact⟨b9,v48,v52,v54,Le.trans (B4 [4,0,1,0,0] rfl) (D5 0 B7 A6)⟩
    refine zq2 ?_;intro b9 _;refine T0 ?_ i3;refine zq19 ?_;intro v54 hone_v54;have one_v54:=hone_v54.2;refine zq47 ?_;exact⟨b9,v48,v52,v54,Le.trans (B4 [3,0,1,0,0] rfl) (D5 0 B7 A6)⟩
   ·refine zq29 ?_;intro v54 hone_v54;have one_v54:=hone_v54.2;refine T0 ?_<|T0 ?_<|i3
    ·refine zq6 ?_;intro v48 hone_v48;have one_v48:=hone_v48.2;refine zq0 ?_;refine T0 ?_ i3;refine zq2 ?_;intro b9 _;refine AA6 ?_;refine R2 ?_;exact⟨b9,v48,v52,v54,Le.trans (B4 [4,0,2,0,0] rfl) (D5 0 B7 A6)⟩
    refine zq2 ?_;intro b9 _;refine T0 ?_ i3;refine zq18 ?_;intro v48 hone_v48;have one_v48:=hone_v48.2;refine zq47 ?_;exact⟨b9,v48,v52,v54,Le.trans (B4 [3,0,2,0,0] rfl) (D5 0 B7 A6)⟩
   refine zq2 ?_;intro b9 _;refine T0 ?_<|T0 ?_<|i3
   ·refine zq6 ?_;intro v48 hone_v48;have one_v48:=hone_v48.2;refine T0 ?_ i3;refine zq19 ?_;intro v54 hone_v54;have one_v54:=hone_v54.2;refine zq47 ?_;exact⟨b9,v48,v52,v54,Le.trans (B4 [2,0,1,0,0] rfl) (D5 0 B7 A6)⟩
   refine zq7 ?_;intro v54 hone_v54;have one_v54:=hone_v54.2;refine T0 ?_ i3;refine zq18 ?_;intro v48 hone_v48;have one_v48:=hone_v48.2;refine zq47 ?_;exact⟨b9,v48,v52,v54,Le.trans (B4 [2,0,2,0,0] rfl) (D5 0 B7 A6)⟩
  ·refine zq213 ?_;intro v54 hone_v54;have one_v54:=hone_v54.2;refine T0 ?_<|T0 ?_<|T0 ?_<|i3
   ·refine zq25 ?_;intro v48 hone_v48;have one_v48:=hone_v48.2;refine T0 ?_<|T0 ?_<|i3
    ·refine zq5 ?_;intro v52 hone_v52;have one_v52:=hone_v52.2;refine zq0 ?_;refine T0 ?_ i3;refine zq2 ?_;intro b9 _;refine AA6 ?_;refine R2 ?_;exact⟨b9,v48,v52,v54,Le.trans (B4 [4,0,1,1,0] rfl) (D5 0 B7 A6)⟩
    refine zq2 ?_;intro b9 _;refine T0 ?_ i3;refine zq17 ?_;intro v52 hone_v52;have one_v52:=hone_v52.2;refine zq47 ?_;exact⟨b9,v48,v52,v54,Le.trans (B4 [3,0,1,1,0] rfl) (D5 0 B7 A6)⟩
   ·refine zq24 ?_;intro v52 hone_v52;have one_v52:=hone_v52.2;refine T0 ?_<|T0 ?_<|i3
    ·refine zq6 ?_;intro v48 hone_v48;have one_v48:=hone_v48.2;refine zq0 ?_;refine T0 ?_ i3;refine zq2 ?_;intro b9 _;refine AA6 ?_;refine R2 ?_;exact⟨b9,v48,v52,v54,Le.trans (B4 [4,0,2,1,0] rfl) (D5 0 B7 A6)⟩
    refine zq2 ?_;intro b9 _;refine T0 ?_ i3;refine zq18 ?_;intro v48 hone_v48;have one_v48:=hone_v48.2;refine zq47 ?_;exact⟨b9,v48,v52,v54,Le.trans (B4 [3,0,2,1,0] rfl) (D5 0 B7 A6)⟩
   refine zq2 ?_;intro b9 _;refine T0 ?_<|T0 ?_<|i3
   ·refine zq6 ?_;intro v48 hone_v48;have one_v48:=hone_v48.2;refine T0 ?_ i3;refine zq17 ?_;intro v52 hone_v52;have one_v52:=hone_v52.2;refine zq47 ?_;exact⟨b9,v48,v52,v54,Le.trans (B4 [2,0,1,1,0] rfl) (D5 0 B7 A6)⟩
   refine zq5 ?_;intro v52 hone_v52;have one_v52:=hone_v52.2;refine T0 ?_ i3;refine zq18 ?_;intro v48 hone_v48;have one_v48:=hone_v48.2;refine zq47 ?_;exact⟨b9,v48,v52,v54,Le.trans (B4 [2,0,2,1,0] rfl) (D5 0 B7 A6)⟩
  refine zq2 ?_;intro b9 _;refine T0 ?_<|T0 ?_<|T0 ?_<|i3
  ·refine zq25 ?_;intro v48 hone_v48;have one_v48:=hone_v48.2;refine T0 ?_<|T0 ?_<|i3
   ·refine zq5 ?_;intro v52 hone_v52;have one_v52:=hone_v52.2;refine T0 ?_ i3;refine zq19 ?_;intro v54 hone_v54;have one_v54:=hone_v54.2;refine zq47 ?_;exact⟨b9,v48,v52,v54,Le.trans (B4 [1,0,0,0,0] rfl) (D5 0 B7 A6)⟩
   refine zq7 ?_;intro v54 hone_v54;have one_v54:=hone_v54.2;refine T0 ?_ i3;refine zq17 ?_;intro v52 hone_v52;have one_v52:=hone_v52.2;refine zq47 ?_;exact⟨b9,v48,v52,v54,Le.trans (B4 [1,0,0,1,0] rfl) (D5 0 B7 A6)⟩
  ·refine zq24 ?_;intro v52 hone_v52;have one_v52:=hone_v52.2;refine T0 ?_<|T0 ?_<|i3
   ·refine zq6 ?_;intro v48 hone_v48;have one_v48:=hone_v48.2;refine T0 ?_ i3;refine zq19 ?_;intro v54 hone_v54;have one_v54:=hone_v54.2;refine zq47 ?_;exact⟨b9,v48,v52,v54,Le.trans (B4 [1,0,1,0,0] rfl) (D5 0 B7 A6)⟩
   refine zq7 ?_;intro v54 hone_v54;have one_v54:=hone_v54.2;refine T0 ?_ i3;refine zq18 ?_;intro v48 hone_v48;have one_v48:=hone_v48.2;refine zq47 ?_;exact⟨b9,v48,v52,v54,Le.trans (B4 [1,0,2,0,0] rfl) (D5 0 B7 A6)⟩
  refine zq29 ?_;intro v54 hone_v54;have one_v54:=hone_v54.2;refine T0 ?_<|T0 ?_<|i3
  ·refine zq6 ?_;intro v48 hone_v48;have one_v48:=hone_v48.2;refine T0 ?_ i3;refine zq17 ?_;intro v52 hone_v52;have one_v52:=hone_v52.2;refine zq47 ?_;exact⟨b9,v48,v52,v54,Le.trans (B4 [1,0,1,1,0] rfl) (D5 0 B7 A6)⟩
  refine zq5 ?_;intro v52 hone_v52;have one_v52:=hone_v52.2;refine T0 ?_ i3;refine zq18 ?_;intro v48 hone_v48;have one_v48:=hone_v48.2;refine zq47 ?_;exact⟨b9,v48,v52,v54,Le.trans (B4 [1,0,2,1,0] rfl) (D5 0 B7 A6)⟩
 intro b9 cv lv pv;refine R2 ?_;refine AWP.le (BR5 5 3 (.arr lv 105 1 ((List.replicate N ([]:List G9)).map fun l=>[AV.list 3 (l.map G9.cs)])) rfl (⟨rfl,rfl,rfl,DM5 N⟩) M6) ?_;refine R5 ?_;refine X5 38 3 ?_;refine zL [1,0] ?_;refine K5 [(1,_),(2,_),(6,_),(7,_),(8,_),(9,_),(56,_)] _ (fun (i:Nat) (gv:Value)=>i≤N) (fun i gv=>[.box b9 32 [AV.int 0,AV.int 0,AV.is cv,strs cuts,AV.is gv,AV.is lv,AV.is pv,AV.nils,AV.nils],.arr gv 38 3 ((List.replicate i nG0).map C1.cs)]) (fun i gv=>[(57,AV.int i)]) (fun i gv=>N-i) (0) (E6) ?_ (I1 B7 A6) ?_
 ·exact E4 _
 intro i gv hinv;refine zK ?_ ?_
 ·intro h58 k58;refine R5 ?_;refine zF rfl call42 (CU5) zS ?_;refine R4 ?_;intro b10;refine R3 ?_;refine H3 qz9 ?_;refine R5 ?_;refine I0 (by':=40) 2 rfl rfl rfl rfl F8 type38 rfl rfl rfl rfl rfl rfl zA zA rfl (by rw[A8,w3];simp only[X4];omega) ?_;intro v67_1;refine R1 ?_;refine O7 2 rfl fun one_v67_1=> ?_;refine N2 1 rfl rfl rfl zA zA (F6 one_v67_1) rfl sizeOf26 rfl ?_;refine R5 ?_;refine H5 i gv (i+1) (v67_1) ?_ ?_ (Le.trans (B4 [0,0,0] rfl) (D5 1 qz224 A6))
  ·exact qz7
  omega
 intro h58 k58;rw[show i=N by omega];refine R8 ?_;refine zL [0,2,0,1,1] ?_;refine E8 [(1,_),(2,_),(6,_),(7,_),(8,_),(9,_),(70,_)] _ (fun (g:Nat)=>g≤N) (fun g=>WNI b9 cuts N (AX8 N g) ⟨cv,gv,lv,pv⟩) (fun g=>[(71,AV.int g)]) (fun g=>N-g) (0) ?_ (I1 (by (rw[←show (List.replicate (3*N) (⟨0⟩:S6)).map S6.cs=List.replicate (3*N) [AV.int 0]from Av3,←show ((List.replicate N (0:Int)).map fun n=>[AV.int n])=List.replicate N [AV.int 0]from Av3];rfl)) A6) ?_
 ·exact E4 _
 intro g hinv;refine zK ?_ ?_
 ·intro h72 k72;have hgN:g<N:=(by simp at h72;omega);refine R10 ?_;refine A1 rfl (w_intc (a:=(g:Int)*3) (3*(g:Int)) (Ad0 rfl zA L1 qz7) (Int.mul_comm _ _)) ?_;refine zI [0,0,0,0,0] rfl call43 (DW7 b9 cuts N ⟨cv,gv,lv,pv⟩ g hgN qz7) F3 rfl ?_;intro x76 ok76;refine R5 ?_;refine F1 g (g+1) ?_ ?_ (Le.trans (B4 [0,0,0,0,0] rfl) (I1 B7 A6))
  ·exact qz7
  omega
 intro h72 k72;rw[show g=N by (simp at h72;omega),Cc3];refine R9 ?_;refine X5 94 10 ?_;refine zL [1,5,1,1,1,1,0] ?_;refine W1 [(2,_),(6,_),(7,_),(8,_),(9,_),(78,_),(79,_)] [] (fun (j:Nat) (tv:Value) (T:List (Value×Value))=>j≤ps.length∧T.length=j) (fun j tv T=>[.box b9 32 [AV.int 0,AV.int 0,AV.is cv,strs cuts,AV.is gv,AV.is lv,AV.is pv,AV.is tv,AV.nils],.box b6 32 (List.map m7 (Value.agg #[Value.int IntKind.i64 0,Value.int IntKind.i64 0,E6,E6,E6,E6,E6,E6,E6]).cells.toList),.arr cv 102 1 ((List.replicate (3*N) (⟨0⟩:S6)).map S6.cs),.arr gv 38 3 ((List.replicate N nG5).map C1.cs),.arr lv 105 1 ((List.replicate N ([]:List G9)).map fun l=>[AV.list 3 (l.map G9.cs)]),.arr pv 3 1 ((List.replicate N (0:Int)).map fun n=>[AV.int n]),.arr tv 94 10 (L4 B5.ocs (P9.take j) T)]++(nin B5.ow (P9.take j) T)) (fun j tv T=>[(80,AV.int j)]) (fun j tv T=>ps.length-j) (0) (E6) ([]) ?_ (I1 B7 A6) ?_
 ·exact zq4
 intro j tv T hinv;refine H3 (T2 _) ?_;refine zK ?_ ?_
 ·intro h81 k81;have hlt:j<ps.length:=(by simpa using h81);obtain⟨p,hp⟩:=B2 hlt;have ht:P9[j]? =some (BF1 N p):=(by rw[←hP9,a8,hp];rfl);have hpk:=h.ps.2 p (C3 hp);have hp8:p.length≤8:=(BJ7 hpk.1).2;refine R5 ?_;refine A1 rfl (C2 rfl AL6 AR0 zA zA hp qz1) ?_;refine R3 ?_;refine zL [0] ?_;refine P1 _ [(0,false),(1,false),(2,false),(3,false),(4,false),(5,true),(6,false),(7,false),(8,true)] E3 E3 rfl (U8 1) ?_;refine R3 ?_;refine N0 rfl rfl rfl (fun ext=>zG rfl call44 (Ci9 _ qz7) (A2 (A0 rfl) A9)) ?_;refine R1 ?_;refine U2 rfl rfl rfl (J2 7 (fun _=>rfl) (AC6 7<|L8 (by':=8) rfl D3 type3 rfl rfl rfl rfl rfl rfl zA zA qz1 qz1)) (fun a _=>qz3) ?_;intro v89 hone_v89;have one_v89:=hone_v89.2;refine N0 rfl rfl rfl (fun ext=>Q7 (places:=#[(0,1),(1,1),(2,1),(3,1),(4,1),(5,1),(6,1),(7,1),(8,1),(9,1)]) rfl M5 zeroValue94 (fun w=>by kernel_rfl) rfl (B6 zA (S8 _ _) (B6 zA (F6 one_v89) (B6 L1 (X2 _ _) (B6 L1 (X2 _ _) N6)))) rfl) ?_;refine R1 ?_;refine U2 rfl rfl rfl (N3 (by':=112) 6 rfl M4 type94 rfl rfl rfl rfl rfl rfl zA zA rfl BK6) (fun a _=>qz3) ?_;intro v92_2 _;refine R2 ?_;refine O7 6 rfl fun one_v92_2=> ?_;refine N2 0 rfl rfl rfl zA zA (F6 one_v92_2) rfl AW2 rfl ?_;refine zq139 ?_;refine X5 58 3 ?_;refine zL [1,1,1,1,1,1,1,0,0] ?_;refine AWP.le (U1 7 (t:=nin B5.ow (P9.take (j+1)) (T++[(E6,v89)])) ((Ax0 (b:=[Go.AV.Own.arr (E6) 58 3 [],Go.AV.Own.arr v89 3 1 ((List.replicate N (0:Int)).map fun n=>[AV.int n])]++nin B5.ow (P9.take j) T) qz87 (AV8 (ow:=B5.ow) (x:=(E6,v89)) ht hinv.2)))) ?_;refine R4 ?_;refine Q8 j tv T (j+1) (v92_2) (T++[(E6,v89)]) ?_ ?_ (Le.trans (B4 [0,0,0,0,0,0,0] rfl) (I1 (Eq.trans (by (rw[←AP5 (ocs:=B5.ocs) (x:=(E6,v89)) ht hinv.2];rfl)) (T2 _).symm) A6))
  ·exact⟨by omega,by rw[I2,hinv.2];rfl⟩
  omega
 intro h81 k81;rw[show P9.take j=P9 from S7 qz7];refine R9 ?_;refine X5 55 6 ?_;refine zL [1,1,1,1,1,1,1,0] ?_;refine W1 [(6,_),(7,_),(9,_),(95,_),(96,_)] [] (fun (m:Nat) (kv:Value) (L:List Value)=>m≤ls.length∧L.length=m) (fun m kv L=>[.box b9 32 [AV.int 0,AV.int 0,AV.is cv,strs cuts,AV.is gv,AV.is lv,AV.is pv,AV.is tv,AV.is kv],.box b6 32 (List.map m7 (Value.agg #[Value.int IntKind.i64 0,Value.int IntKind.i64 0,E6,E6,E6,E6,E6,E6,E6]).cells.toList),.arr cv 102 1 ((List.replicate (3*N) (⟨0⟩:S6)).map S6.cs),.arr gv 38 3 ((List.replicate N nG5).map C1.cs),.arr lv 105 1 ((List.replicate N ([]:List G9)).map fun l=>[AV.list 3 (l.map G9.cs)]),.arr pv 3 1 ((List.replicate N (0:Int)).map fun n=>[AV.int n]),.arr tv 94 10 (L4 B5.ocs P9 T),.arr kv 55 6 (L4 C5.ocs (Q9.take m) L)]++(nin B5.ow P9 T++nin C5.ow (Q9.take m) L)) (fun m kv L=>[(97,AV.int m)]) (fun m kv L=>ls.length-m) (0) (E6) ([]) ?_ (I1 qz188 A6) ?_
 ·exact zq4
 intro m kv L hinv;refine H3 (T2 _) ?_;refine zK ?_ ?_
 ·intro h98 k98;have hltm:m<ls.length:=(by simpa using h98);obtain⟨l,hl⟩:=B2 hltm;have hq9:Q9[m]? =some (BP8 N m l):=(by rw[←hQ9];exact CM4 hl);have hlk:=h.ls.2 l (C3 hl);refine R6 ?_;refine A1 rfl (C2 rfl AD2 AA0 zA zA hl qz1) ?_;refine R4 ?_;refine zL [0,1] ?_;refine J3 11 E3 E3 rfl ?_;refine R5 ?_;refine B3 rfl rfl (w_intc (3*(N:Int)) (w_alen 1 rfl J0 zA rfl) (by rw[A8,w3];omega)) ?_;refine B3 rfl rfl (BM8 rfl zA zA qz7) ?_;refine R1 ?_;refine B3 rfl rfl (zG rfl call41 (BM1 _ qz7) (A2 (A0 rfl) A9)) ?_;refine R3 ?_;refine I0 (by':=80) 7 rfl rfl rfl rfl j8 type55 rfl rfl rfl rfl rfl rfl zA zA rfl BK6 ?_;intro v113_3;refine R1 ?_;refine O7 7 rfl fun one_v113_3=> ?_;refine N2 0 rfl rfl rfl zA zA (F6 one_v113_3) rfl sizeOf30 rfl ?_;refine R1 ?_;refine zq106 ?_;refine Q8 m kv L (m+1) (v113_3) (L++[E6]) ?_ ?_ (Le.trans (B4 [0,1,0,0,0,0,0,0] rfl) (I1 (Eq.trans (by (rw[←AP5 (ocs:=C5.ocs) (x:=(E6)) hq9 hinv.2];rfl)) (T2 _).symm) A6))
  ·exact⟨by omega,by rw[I2,hinv.2];rfl⟩
  omega
 intro h98 k98;rw[show Q9.take m=Q9 from S7 qz7];refine R2 ?_;refine zL [0,0,0,0,0,0,0,0] ?_;refine AWP.le (BR5 2 0 (.box b9 32 (nWV N cuts P9 Q9).cs) rfl (⟨rfl,rfl,Bj1 (w:=nWV N cuts P9 Q9) (X:=⟨cv,gv,lv,pv,tv,kv⟩) (T:=T) (L:=L) (by show T.length=P9.length;omega) (by show L.length=Q9.length;omega) (fun _ ho=>ho)⟩) M6) ?_;refine R6 ?_;exact I9 [] ((nWV N cuts P9 Q9,true)) (qz217) rfl B7 (j6 rfl E5 (G0 (F5 (ys:=_) 1 rfl rfl V5 P4 rfl) V6))
def WP (w:C7)(c g:Value):List AV:=[AV.int w.Now,AV.int w.Count,AV.is c,strs w.Cuts,AV.is g,AV.list 1 (w.Locks.map fun l=>[AV.list 3 (l.map G9.cs)]),ints w.Promised,AV.list 10 (w.Txns.map B5.cs),AV.list 6 (w.Looks.map C5.cs)]
def WR (w:C7)(c g:Value):List Go.AV.Own:=[.arr c 102 1 (w.Clocks.map S6.cs),.arr g 38 3 (w.Groups.map C1.cs)]
theorem wp_lend (w:C7)(c g:Value):AQ9 (WR w c g) (AV.agg (WP w c g)) (AV.agg w.cs):=AO7 (D7 H9 (D7 H9 (D7 (K2 n4 G3) (D7 H9 (D7 (K2 (U5 _ n4) G3) AP0)))))
def WK (w:C7)(X:WX)(T:List (Value×Value))(L:List Value)(u:C7)(vc vg:Value):List Go.AV.Own:=
  .arr vc 102 1 (u.Clocks.map S6.cs):: .arr vg 38 3 (u.Groups.map C1.cs)::
  .arr X.cl 102 1 (w.Clocks.map S6.cs):: .arr X.gr 38 3 (w.Groups.map C1.cs):: .arr X.lo 105 1 (w.Locks.map fun l=>[AV.list 3 (l.map G9.cs)])::
  .arr X.pr 3 1 (w.Promised.map fun n=>[AV.int n]):: .arr X.tx 94 10 (L4 B5.ocs w.Txns T):: .arr X.lk 55 6 (L4 C5.ocs w.Looks L)::
  (nwZ w T L)
theorem Cj1 (w:C7)(vc vg:Value)(hw:WI w):M0 51 [AV.agg (WP w vc vg)] (WR w vc vg) (fun x:WX×List (Value×Value)×List Value=>x.2.1.length=w.Txns.length∧x.2.2.length=w.Looks.length) (fun x=>WK w x.1 x.2.1 x.2.2 w vc vg) (fun x=>AV.agg (WV w x.1)):=by
 have hng:=hw.n;have htl:=hw.txns.1;have hll:=hw.looks.1;have hcl:=hw.clocks.1;have hcu:=hw.cuts.1;have hpr:=hw.promised.1;have hlo:=hw.locks.1;refine C8 func51 rfl ntmps51 rfl ?_;refine R3 ?_;intro b1;refine R1 ?_;intro b2;refine R2 ?_;refine Co4 [(1,_),(2,_)] A6 (fun (b3:Nat) (cv:Value) (pv:Value)=>[.box b3 32 [AV.int w.Now,AV.int w.Count,AV.is cv,strs w.Cuts,AV.nils,AV.nils,AV.is pv,AV.nils,AV.nils],.box b1 32 (WP w vc vg),.arr vc 102 1 (w.Clocks.map S6.cs),.arr vg 38 3 (w.Groups.map C1.cs),.box b2 32 (List.map m7 (Value.agg #[Value.int IntKind.i64 0,Value.int IntKind.i64 0,E6,E6,E6,E6,E6,E6,E6]).cells.toList),.arr cv 102 1 (w.Clocks.map S6.cs),.arr pv 3 1 (w.Promised.map fun n=>[AV.int n])]) (fun (b3:Nat) (cv:Value) (pv:Value)=>[(3,AV.ptr b3 0)]) ?_ ?_
 ·skip
  refine AWP.le (B4 [1,1,1] rfl) ?_;refine Z9 _ 16 (.pure 0 (.pure 1 (.pure 2 (.pure 3 (.pure 5 (.pure 6 (.pure 8 (.pure 9 (.pure 11 (.pure 12 (.e2 4 (.e2 7 (.pure 10 (.e2 13 (.pure 14 (.e1 15 .nil)) 15 (.e1 13 (.pure 14 .nil)))) 15 (.e1 7 (.pure 10 (.e1 13 (.pure 14 .nil))))) 15 (.e1 4 (.e1 7 (.pure 10 (.e1 13 (.pure 14 .nil)))))))))))))))) E3 E3 rfl (U8 3) ?_;refine R10 ?_;refine AR7 ?_ ?_
  ·refine F7 rfl rfl rfl (AC3 rfl J0 u6) (fun a _=>qz3) ?_;intro v14 _;refine AR7 ?_ ?_
   ·refine F7 rfl rfl rfl (J2 4 (fun _=>rfl) (Aj3 (by':=8) 4 rfl J0 type102 rfl rfl rfl rfl rfl rfl (A0 rfl) (CC4 1 rfl (A0 rfl)) rfl qz1)) (fun a _=>qz3) ?_;intro v17_1 hone_v17_1;have one_v17_1:=hone_v17_1.2;refine N8 rfl rfl rfl (fun ext=>A4 rfl call48 rfl (AH0 _ qz7) (A2 (A0 rfl) A9)) ?_;refine AR7 ?_ ?_
    ·refine F7 rfl rfl rfl (J2 5 (fun _=>rfl) (S9 [] rfl call124 rfl (AU7 w.Promised qz7) G6 rfl)) (fun a _=>qz3) ?_;intro x23 ok23;have one_x23:=ok23.2
     replace ok23:=ok23.1
     refine N8 rfl rfl rfl (fun ext=>Q7 (places:=#[(0,1),(1,1),(2,1),(3,1),(4,1),(5,1),(6,1),(7,1),(8,1)]) rfl J1 zeroValue32 (fun w=>by kernel_rfl) rfl (B6 (A0 rfl) (X2 _ _) (B6 (A0 rfl) (X2 _ _) (B6 (A0 rfl) (F6 one_v17_1) (B6 (A0 rfl) (S8 _ _) (B6 (A0 rfl) (F6 one_x23) N6))))) rfl) ?_;refine R1 ?_;refine F7 rfl rfl rfl (S4 rfl zeroValue32 rfl) (fun a _=>qz3) ?_;intro b3 _;refine R3 ?_;exact⟨b3,v17_1,x23,Le.trans (B4 [6,0,0,0,0,0,0] rfl) (D5 0 B7 A6)⟩
    refine F7 rfl rfl rfl (S4 rfl zeroValue32 rfl) (fun a _=>qz3) ?_;intro b3 _;refine R1 ?_;refine F7 rfl rfl rfl (J2 6 (fun _=>rfl) (S9 [] rfl call124 rfl (AU7 w.Promised qz7) G6 rfl)) (fun a _=>qz3) ?_;intro x23 ok23;have one_x23:=ok23.2
    replace ok23:=ok23.1
    refine N8 rfl rfl rfl (fun ext=>Q7 (places:=#[(0,1),(1,1),(2,1),(3,1),(4,1),(5,1),(6,1),(7,1),(8,1)]) rfl J1 zeroValue32 (fun w=>by kernel_rfl) rfl (B6 (A0 rfl) (X2 _ _) (B6 (A0 rfl) (X2 _ _) (B6 (A0 rfl) (F6 one_v17_1) (B6 (A0 rfl) (S8 _ _) (B6 (A0 rfl) (F6 one_x23) N6))))) rfl) ?_;refine R3 ?_;exact⟨b3,v17_1,x23,Le.trans (B4 [5,0,0,0,0,0,0] rfl) (D5 0 B7 A6)⟩
   refine F7 rfl rfl rfl (S4 rfl zeroValue32 rfl) (fun a _=>qz3) ?_;intro b3 _;refine R1 ?_;refine F7 rfl rfl rfl (J2 4 (fun _=>rfl) (Aj3 (by':=8) 4 rfl J0 type102 rfl rfl rfl rfl rfl rfl (A0 rfl) (CC4 1 rfl (A0 rfl)) rfl qz1)) (fun a _=>qz3) ?_;intro v17_2 hone_v17_2;have one_v17_2:=hone_v17_2.2;refine N8 rfl rfl rfl (fun ext=>A4 rfl call48 rfl (AH0 _ qz7) (A2 (A0 rfl) A9)) ?_;refine R1 ?_;refine F7 rfl rfl rfl (J2 6 (fun _=>rfl) (S9 [] rfl call124 rfl (AU7 w.Promised qz7) G6 rfl)) (fun a _=>qz3) ?_;intro x23 ok23;have one_x23:=ok23.2
   replace ok23:=ok23.1
   refine N8 rfl rfl rfl (fun ext=>Q7 (places:=#[(0,1),(1,1),(2,1),(3,1),(4,1),(5,1),(6,1),(7,1),(8,1)]) rfl J1 zeroValue32 (fun w=>by kernel_rfl) rfl (B6 (A0 rfl) (X2 _ _) (B6 (A0 rfl) (X2 _ _) (B6 (A0 rfl) (F6 one_v17_2) (B6 (A0 rfl) (S8 _ _) (B6 (A0 rfl) (F6 one_x23) N6))))) rfl) ?_;refine R3 ?_;exact⟨b3,v17_2,x23,Le.trans (B4 [5,0,0,0,0,0,0] rfl) (D5 0 B7 A6)⟩
  refine F7 rfl rfl rfl (S4 rfl zeroValue32 rfl) (fun a _=>qz3) ?_;intro b3 _;refine R1 ?_;refine F7 rfl rfl rfl (AC3 rfl J0 u6) (fun a _=>qz3) ?_;intro v14 _;refine R1 ?_;refine F7 rfl rfl rfl (J2 5 (fun _=>rfl) (Aj3 (by':=8) 5 rfl J0 type102 rfl rfl rfl rfl rfl rfl (A0 rfl) (CC4 1 rfl (A0 rfl)) rfl qz1)) (fun a _=>qz3) ?_;intro v17_3 hone_v17_3;have one_v17_3:=hone_v17_3.2;refine N8 rfl rfl rfl (fun ext=>A4 rfl call48 rfl (AH0 _ qz7) (A2 (A0 rfl) A9)) ?_;refine R1 ?_;refine F7 rfl rfl rfl (J2 6 (fun _=>rfl) (S9 [] rfl call124 rfl (AU7 w.Promised qz7) G6 rfl)) (fun a _=>qz3) ?_;intro x23 ok23;have one_x23:=ok23.2
  replace ok23:=ok23.1
  refine N8 rfl rfl rfl (fun ext=>Q7 (places:=#[(0,1),(1,1),(2,1),(3,1),(4,1),(5,1),(6,1),(7,1),(8,1)]) rfl J1 zeroValue32 (fun w=>by kernel_rfl) rfl (B6 (A0 rfl) (X2 _ _) (B6 (A0 rfl) (X2 _ _) (B6 (A0 rfl) (F6 one_v17_3) (B6 (A0 rfl) (S8 _ _) (B6 (A0 rfl) (F6 one_x23) N6))))) rfl) ?_;refine R3 ?_;exact⟨b3,v17_3,x23,Le.trans (B4 [4,0,0,0,0,0,0] rfl) (D5 0 B7 A6)⟩
 intro b3 cv pv;refine R9 ?_;refine X5 38 3 ?_;refine X5 105 1 ?_;refine AWP.le (B4 [2,1,0] rfl) ?_;refine W1 [(1,_),(2,_),(3,_),(26,_),(27,_)] _ (fun (i:Nat) (gv:Value) (lv:Value)=>i≤w.Groups.length) (fun i gv lv=>[.box b3 32 [AV.int w.Now,AV.int w.Count,AV.is cv,strs w.Cuts,AV.is gv,AV.is lv,AV.is pv,AV.nils,AV.nils],.arr gv 38 3 ((w.Groups.take i).map C1.cs),.arr lv 105 1 ((w.Locks.take i).map fun l=>[AV.list 3 (l.map G9.cs)])]) (fun i gv lv=>[(28,AV.int i)]) (fun i gv lv=>w.Groups.length-i) (0) (E6) (E6) ?_ (I1 B7 A6) ?_
 ·exact E4 _
 intro i gv lv hinv;refine R5 ?_;refine A3 ?_ ?_
 ·intro h29;have k29:=C4 h29;have hlt:i<w.Groups.length:=(by simpa using h29);obtain⟨g,hg⟩:=B2 hlt;have hgs:=BE1 (hw.groups g (C3 hg)).good;obtain⟨k,hk⟩:=B2 (show i<w.Locks.length by omega);have hk60:=(hw.locks.2 k (C3 hk)).1;refine R6 ?_;refine A1 rfl (I4 5 rfl F8 C6 (A0 rfl) rfl (A0 rfl) qz7 AE8) ?_;refine A1 rfl (r5 5 rfl (A0 rfl) rfl K6 C6 qz96 E5) ?_;refine R1 ?_;intro b5;refine R4 ?_;refine H3 qz9 ?_;refine AWP.le (B4 [1,0] rfl) ?_;refine J3 5 E3 E3 rfl ?_;refine R3 ?_;refine B3 rfl rfl (A4 rfl call125 rfl (Bs6 g qz7) G6) ?_;refine R2 ?_;refine I0 (by':=40) 2 rfl rfl rfl rfl F8 type38 rfl rfl rfl rfl rfl rfl (A0 rfl) (A0 rfl) rfl qz1 ?_;intro v38_4;refine R1 ?_;refine O7 2 rfl fun one_v38_4=> ?_;refine N2 0 rfl rfl rfl (A0 rfl) (A0 rfl) (F6 one_v38_4) rfl sizeOf26 rfl ?_;refine R1 ?_;refine H3 qz9 ?_;refine AWP.le (B4 [0,3] rfl) ?_;refine P1 _ [(0,false),(1,false),(3,false),(4,false),(5,false),(6,false),(7,false),(2,true),(8,true),(9,false),(10,true)] E3 E3 rfl (U8 2) ?_;refine R5 ?_;refine N0 rfl rfl rfl (fun ext=>C2 rfl K1 i8 (A0 rfl) (A0 rfl) hk qz1) ?_;refine R1 ?_;refine U2 rfl rfl rfl (AC3 rfl V2 u5) (fun a _=>qz3) ?_;intro v42 _;refine U2 rfl rfl rfl (Af7 [10] (fun _=>rfl) (fun _=>K2 (C3 (i:=0) rfl) G3) (fun _=>(AB1 5 rfl rfl (AB1 6 rfl rfl M6))) (N3 (by':=32) 10 rfl V2 type175 rfl rfl rfl rfl rfl rfl (A0 rfl) (A0 rfl) rfl qz1)) (fun a _=>qz3) ?_;intro v48_5 _;refine R1 ?_;refine U2 rfl rfl rfl (N3 (by':=24) 4 rfl K1 type105 rfl rfl rfl rfl rfl rfl (A0 rfl) (A0 rfl) rfl qz1) (fun a _=>qz3) ?_;intro v50_6 _;refine R2 ?_;refine O7 4 rfl fun one_v50_6=> ?_;refine N2 0 rfl rfl rfl (A0 rfl) (A0 rfl) (F6 one_v50_6) rfl sizeOf27 rfl ?_;refine R1 ?_;refine H3 qz9 ?_;refine R4 ?_;refine Q8 i gv lv (i+1) (v38_4) (v50_6) ?_ ?_ (Le.trans (B4 [2,0,1,1] rfl) (D5 1 (by (rw[X3,hg,Y3,X3,hk,Y3];rfl)) A6))
  ·exact qz7
  omega
 intro h29;have k29:=C0 h29;have hge:w.Groups.length≤i:=(by simpa using h29);rw[show w.Groups.take i=w.Groups from S7 qz7,show w.Locks.take i=w.Locks from S7 qz7];refine R10 ?_;refine X5 94 10 ?_;refine AWP.le (B4 [1,6,3,3,3,3,3,1,1,0] rfl) ?_;refine W1 [(1,_),(2,_),(3,_),(54,_),(55,_)] [] (fun (j:Nat) (tv:Value) (T:List (Value×Value))=>j≤w.Txns.length∧T.length=j) (fun j tv T=>[.box b3 32 [AV.int w.Now,AV.int w.Count,AV.is cv,strs w.Cuts,AV.is gv,AV.is lv,AV.is pv,AV.is tv,AV.nils],.box b2 32 (List.map m7 (Value.agg #[Value.int IntKind.i64 0,Value.int IntKind.i64 0,E6,E6,E6,E6,E6,E6,E6]).cells.toList),.box b1 32 (WP w vc vg),.arr vc 102 1 (w.Clocks.map S6.cs),.arr vg 38 3 (w.Groups.map C1.cs),.arr cv 102 1 (w.Clocks.map S6.cs),.arr pv 3 1 (w.Promised.map fun n=>[AV.int n]),.arr gv 38 3 (w.Groups.map C1.cs),.arr lv 105 1 (w.Locks.map fun l=>[AV.list 3 (l.map G9.cs)]),.arr tv 94 10 (L4 B5.ocs (w.Txns.take j) T)]++(nin B5.ow (w.Txns.take j) T)) (fun j tv T=>[(56,AV.int j)]) (fun j tv T=>w.Txns.length-j) (0) (E6) ([]) ?_ (I1 B7 A6) ?_
 ·exact⟨E4 _,rfl⟩
 intro j tv T hinv;refine H3 (T2 _) ?_;refine R5 ?_;refine A3 ?_ ?_
 ·intro h57;have k57:=C4 h57;have hltj:j<w.Txns.length:=(by simpa using h57);obtain⟨t,ht⟩:=B2 hltj;have htk:=hw.txns.2 t (C3 ht);have hol:=htk.sb.len;have hgl:=htk.got.1;have htm:=htk.terms;refine R5 ?_;refine A1 rfl (C2 rfl M4 U3 (A0 rfl) (A0 rfl) ht qz1) ?_;refine R2 ?_;intro b7;refine R4 ?_;refine S3 rfl rfl rfl rfl U6 Z1 ?_;intro v60;refine R2 ?_;refine I0 (by':=48) 0 rfl rfl rfl rfl U6 type92 rfl rfl rfl rfl rfl rfl (A0 rfl) (A0 rfl) rfl qz1 ?_;intro v63_7;refine R1 ?_;refine O7 0 rfl fun one_v63_7=> ?_;refine N2 1 rfl rfl rfl (A0 rfl) (A0 rfl) (F6 one_v63_7) rfl AR0 rfl ?_;refine R2 ?_;refine AWP.le (Am7 [0] 0 (.box b7 94 t.cs) rfl rfl ⟨rfl,rfl,(D7 (K2 (C3 (i:=0) rfl) G3) (D7 H9 (D7 H9 (D7 H9 (D7 H9 (D7 H9 (D7 H9 (D7 H9 (D7 H9 (D7 H9 Z6))))))))))⟩ (AB1 4 rfl rfl (AB1 5 rfl rfl M6))) ?_;refine H3 qz9 ?_;refine R1 ?_;refine S3 rfl rfl rfl rfl N1 W7 ?_;intro v65;refine R2 ?_;refine I0 (by':=40) 0 rfl rfl rfl rfl N1 type58 rfl rfl rfl rfl rfl rfl (A0 rfl) (A0 rfl) rfl qz1 ?_;intro v68_8;refine R1 ?_;refine O7 0 rfl fun one_v68_8=> ?_;refine N2 1 rfl rfl rfl (A0 rfl) (A0 rfl) (F6 one_v68_8) rfl Y5 rfl ?_;refine R2 ?_;refine H3 qz9 ?_;refine R3 ?_;refine G8 [] rfl rfl rfl rfl call124 rfl (AU7 t.Terms qz7) G6 rfl ?_;intro x72 ok72;refine R1 ?_;refine O7 0 rfl fun one_x72=> ?_;refine N2 2 rfl rfl rfl (A0 rfl) (A0 rfl) (F6 one_x72) rfl Ae3 rfl ?_;refine R1 ?_;refine H3 qz9 ?_;refine R5 ?_;refine I0 (by':=112) 12 rfl rfl rfl rfl M4 type94 rfl rfl rfl rfl rfl rfl (A0 rfl) (A0 rfl) rfl BK6 ?_;intro v78_9;refine R1 ?_;refine O7 12 rfl fun one_v78_9=> ?_;refine N2 3 rfl rfl rfl (A0 rfl) (A0 rfl) (F6 one_v78_9) rfl AW2 rfl ?_;refine R1 ?_;refine H3 qz9 ?_;refine AWP.le (B4 [2,2,2,2,2,2,2,2,2,2,2,1,0] rfl) ?_;refine AWP.le (U1 11 (t:=nin B5.ow (w.Txns.take (j+1)) (T++[(v68_8,x72)])) (AV8 (ow:=B5.ow) (x:=(v68_8,x72)) ht hinv.2)) ?_;refine R4 ?_;refine Q8 j tv T (j+1) (v78_9) (T++[(v68_8,x72)]) ?_ ?_ (Le.trans (B4 [0,0,0,0,0,0,0,0,0,0,0] rfl) (D5 1 (Eq.trans qz223 (T2 _).symm) A6))
  ·exact⟨by omega,by rw[I2,hinv.2];rfl⟩
  omega
 intro h57;have k57:=C0 h57;have hxT:T.length=w.Txns.length:=(by have h9:w.Txns.length≤j:=(by simpa using h57);omega);rw[show w.Txns.take j=w.Txns from S7 qz7];refine R10 ?_;refine X5 55 6 ?_;refine AWP.le (B4 [1,1,1,1,1,1,1,1,1,1,0] rfl) ?_;refine W1 [(2,_),(3,_),(82,_),(83,_)] [] (fun (m:Nat) (kv:Value) (L:List Value)=>m≤w.Looks.length∧L.length=m) (fun m kv L=>[.box b3 32 [AV.int w.Now,AV.int w.Count,AV.is cv,strs w.Cuts,AV.is gv,AV.is lv,AV.is pv,AV.is tv,AV.is kv],.box b2 32 (List.map m7 (Value.agg #[Value.int IntKind.i64 0,Value.int IntKind.i64 0,E6,E6,E6,E6,E6,E6,E6]).cells.toList),.box b1 32 (WP w vc vg),.arr vc 102 1 (w.Clocks.map S6.cs),.arr vg 38 3 (w.Groups.map C1.cs),.arr cv 102 1 (w.Clocks.map S6.cs),.arr pv 3 1 (w.Promised.map fun n=>[AV.int n]),.arr gv 38 3 (w.Groups.map C1.cs),.arr lv 105 1 (w.Locks.map fun l=>[AV.list 3 (l.map G9.cs)]),.arr tv 94 10 (L4 B5.ocs w.Txns T),.arr kv 55 6 (L4 C5.ocs (w.Looks.take m) L)]++(nin B5.ow w.Txns T++nin C5.ow (w.Looks.take m) L)) (fun m kv L=>[(84,AV.int m)]) (fun m kv L=>w.Looks.length-m) (0) (E6) ([]) ?_ (I1 qz180 A6) ?_
 ·exact⟨E4 _,rfl⟩
 intro m kv L hinv;refine H3 (T2 _) ?_;refine R5 ?_;refine A3 ?_ ?_
 ·intro h85;have k85:=C4 h85;have hltm:m<w.Looks.length:=(by simpa using h85);obtain⟨q,hk9⟩:=B2 hltm;have hqk:=hw.looks.2 q (C3 hk9);have hqg:=hqk.got.1;have hqn:=hqk.keys.1;refine R5 ?_;refine A1 rfl (C2 rfl j8 AJ8 (A0 rfl) (A0 rfl) hk9 qz1) ?_;refine R2 ?_;intro b9;refine R6 ?_;refine A1 rfl (A4 rfl call48 rfl (AH0 _ qz7) (A2 (A0 rfl) A9)) ?_;refine R5 ?_;refine S3 rfl rfl rfl rfl N1 W7 ?_;intro v92;refine R2 ?_;refine I0 (by':=40) 0 rfl rfl rfl rfl N1 type58 rfl rfl rfl rfl rfl rfl (A0 rfl) (A0 rfl) rfl qz1 ?_;intro v95_10;refine R1 ?_;refine O7 0 rfl fun one_v95_10=> ?_;refine N2 1 rfl rfl rfl (A0 rfl) (A0 rfl) (F6 one_v95_10) rfl Y5 rfl ?_;refine R1 ?_;refine H3 qz9 ?_;refine R5 ?_;refine I0 (by':=80) 12 rfl rfl rfl rfl j8 type55 rfl rfl rfl rfl rfl rfl (A0 rfl) (A0 rfl) rfl BK6 ?_;intro v101_11;refine R1 ?_;refine O7 12 rfl fun one_v101_11=> ?_;refine N2 2 rfl rfl rfl (A0 rfl) (A0 rfl) (F6 one_v101_11) rfl sizeOf30 rfl ?_;refine R1 ?_;refine H3 qz9 ?_;refine AWP.le (B4 [1,1,1,1,1,1,1,1,1,1,1,1,0] rfl) ?_;refine AWP.le (U1 12 (t:=nin B5.ow w.Txns T++nin C5.ow (w.Looks.take (m+1)) (L++[v95_10])) (Bj0 (x:=v95_10) hk9 hinv.2)) ?_;refine R4 ?_;refine Q8 m kv L (m+1) (v101_11) (L++[v95_10]) ?_ ?_ (Le.trans (B4 [0,0,0,0,0,0,0,0,0,0,0,0] rfl) (D5 1 (Eq.trans (by (rw[←AP5 (ocs:=C5.ocs) (x:=v95_10) hk9 hinv.2];rfl)) (T2 _).symm) A6))
  ·exact⟨by omega,by rw[I2,hinv.2];rfl⟩
  omega
 intro h85;have k85:=C0 h85;have hxL:L.length=w.Looks.length:=(by have h9:w.Looks.length≤m:=(by simpa using h85);omega);rw[show w.Looks.take m=w.Looks from S7 qz7];refine R7 ?_;exact H8 [3,3,3,4,4,3,3,3] 3 (nwZ w T L) ((⟨cv,gv,lv,pv,tv,kv⟩,T,L)) (⟨hxT,hxL⟩) rfl B7 (O2 rfl (F5 (ys:=_) 1 rfl rfl V5 P4 rfl))
theorem Dg6 (w:C7)(vc vg:Value)(a:r3)(hw:WI w)(hq:WQ w)(ha:AB4 a):M0 255 [AV.agg (WP w vc vg),AV.agg a.cs] (WR w vc vg) (fun v:(C7×Bool)×WX×List (Value×Value)×List Value=>(v.2.2.1.length=v.1.1.Txns.length∧v.2.2.2.length=v.1.1.Looks.length)∧(v.1.2=true→WI v.1.1∧WQ v.1.1)) (fun v=>WK v.1.1 v.2.1 v.2.2.1 v.2.2.2 w vc vg) (fun v=>AV.tup [AV.agg (WV v.1.1 v.2.1),AV.bool v.1.2]):=by
 refine C8 func255 rfl ntmps255 rfl ?_;refine R3 ?_;intro b2;refine R1 ?_;intro b3;refine R1 ?_;intro b4;refine R5 ?_;refine Av9 [3,3] 3 8 ([]) ([]) (fun zz=>nwZ w zz.2.1 zz.2.2) rfl rfl rfl rfl call51 rfl rfl (show List.Perm ([]) (([])++([]))from List.Perm.refl _) (Cj1 w vc vg hw) G6 (fun a=>O4) ?_;intro x8 ok8;refine R2 ?_;intro b10;refine R7 ?_;refine M2 [0,2,2,2,2,2,2] 5 7 (nwZ w x8.2.1 x8.2.2) (fun zz=>nwZ zz.1.1 zz.2.1 zz.2.2) rfl rfl rfl rfl call304 rfl rfl (do_own b10 w x8.1 x8.2.1 x8.2.2 a hw hq ok8.1 ok8.2 ha) F3 (fun a=>O4) ?_;intro x13 ok13;refine R2 ?_;refine A3 ?_ ?_
 ·intro h14;refine R7 ?_;refine Q0 9 3 1 rfl rfl (AB1 7 rfl rfl (AB1 8 rfl rfl M6)) ?_;refine i7 102 1 ?_;refine i7 38 3 ?_;refine i7 105 1 ?_;refine i7 3 1 ?_;refine i7 94 10 ?_;refine i7 55 6 ?_;first|exact I9 [13,13,5,4,3,2,1,0] (((Af0,false),⟨E6,E6,E6,E6,E6,E6⟩,[],[])) (qz115) rfl B7 (j6 rfl E5 (G0 (F5 (ys:=_) 15 rfl rfl V5 P4 rfl) (G0 (A5 rfl B7) u9)))|exact H8 [13,13,5,4,3,2,1,0] 10 (nwZ x13.1.1 x13.2.1 x13.2.2) (((Af0,false),⟨E6,E6,E6,E6,E6,E6⟩,[],[])) (qz115) rfl B7 (j6 rfl E5 (G0 (F5 (ys:=_) 15 rfl rfl V5 P4 rfl) (G0 (A5 rfl B7) u9)))
 intro h14;have hdo:=ok13 At1;have hcb:=hdo.1.count;have hwc:=wi_count hdo.1 (by rw[hdo.2.1.1];exact hdo.2.1.2);refine R24 ?_;exact H8 [7,7,1,1,1,1,1,1] 4 (nwZ x13.1.1 x13.2.1 x13.2.2) ((({x13.1.1 with Count:=x13.1.1.Count+1},true),x8.1,x13.2.1,x13.2.2)) (qz115) rfl B7 (j6 rfl E5 (G0 (F5 (ys:=_) 9 rfl rfl V5 P4 rfl) (G0 (A5 rfl B7) u9)))
theorem CA6 {sel:List Go.AV.Own}(l:List Go.AV.Own):BP0 sel l l:=⟨rfl,fun i x y hx hy=>by rw[hx]at hy;injection hy with hy;subst hy;exact DJ6 _⟩
theorem Dg7 (w:C7)(vc vg:Value)(a:r3)(hw:WI w)(hq:WQ w)(ha:AB4 a):M0 255 [AV.agg (WP w vc vg),AV.agg a.cs] (WR w vc vg) (fun v:(C7×Bool)×Value×Value=>v.1.2=true→WI v.1.1∧WQ v.1.1) (fun v=>WR w vc vg++WR v.1.1 v.2.1 v.2.2) (fun v=>AV.tup [AV.agg (WP v.1.1 v.2.1 v.2.2),AV.bool v.1.2]):=
  Aj2 (fun x=>(x.1,x.2.1.cl,x.2.1.gr)) (fun v=> .arr v.2.1.lo 105 1 (v.1.1.Locks.map fun l=>[AV.list 3 (l.map G9.cs)]):: .arr v.2.1.pr 3 1 (v.1.1.Promised.map fun n=>[AV.int n]):: .arr v.2.1.tx 94 10 (L4 B5.ocs v.1.1.Txns v.2.2.1):: .arr v.2.1.lk 55 6 (L4 C5.ocs v.1.1.Looks v.2.2.2)::(nwZ v.1.1 v.2.2.1 v.2.2.2))
    (fun v=>WR w vc vg++WR v.1.1 v.2.1.cl v.2.1.gr) (Dg6 w vc vg a hw hq ha) (fun _ h=>h.2)
    (fun x h=>AQ7 (D7 (AO7 (D7 H9 (D7 H9 (D7 H9 (D7 H9 (D7 H9 (D7 (K2 (C3 (i:=0) rfl) G3) (D7 (K2 (C3 (i:=1) rfl) G3)
      (D7 (K2 (C3 (i:=2) rfl) (Aw0 B5.lcM h.1.1 fun o ho=>U5 _ (U5 _ (U5 _ (U5 _ (AM4 _ ho))))))
      (D7 (K2 (C3 (i:=3) rfl) (Aw0 C5.lcM h.1.2 fun o ho=>U5 _ (U5 _ (U5 _ (U5 _ (AD7 _ ho)))))) Z6)))))))))) (D7 H9 Z6)))
    (fun x _=>AQ0 (l₁:=[_,_,_,_])) (fun _ _=>AB1 0 rfl rfl (AB1 1 rfl rfl M6)) (fun x _=>CA6 _)
theorem Cj2 (w:C7)(hw:WI w):M0 51 [AV.agg w.cs] [] (fun _:Value×Value=>True) (fun x=>WR w x.1 x.2) (fun x=>AV.agg (WP w x.1 x.2)):=
  Aj2 (fun x=>(x.1.cl,x.1.gr)) (fun v=> .arr v.1.lo 105 1 (w.Locks.map fun l=>[AV.list 3 (l.map G9.cs)]):: .arr v.1.pr 3 1 (w.Promised.map fun n=>[AV.int n]):: .arr v.1.tx 94 10 (L4 B5.ocs w.Txns v.2.1):: .arr v.1.lk 55 6 (L4 C5.ocs w.Looks v.2.2)::(nwZ w v.2.1 v.2.2))
    (fun v=>WR w v.1.cl v.1.gr) (Bs7 w hw) (fun _ _=>trivial)
    (fun x h=>AO7 (D7 H9 (D7 H9 (D7 H9 (D7 H9 (D7 H9 (D7 (K2 (C3 (i:=0) rfl) G3) (D7 (K2 (C3 (i:=1) rfl) G3)
      (D7 (K2 (C3 (i:=2) rfl) (Aw0 B5.lcM h.1 fun o ho=>U5 _ (U5 _ (U5 _ (U5 _ (AM4 _ ho))))))
      (D7 (K2 (C3 (i:=3) rfl) (Aw0 C5.lcM h.2 fun o ho=>U5 _ (U5 _ (U5 _ (U5 _ (AD7 _ ho)))))) Z6))))))))))
    (fun x _=>AQ0 (l₁:=[_,_])) (fun _ _=>M6) (fun x _=>CA6 _)
theorem Bt1 (w:C7)(acts:List r3)(hw:WI w)(hq:WQ w)(ha:∀a∈acts,AB4 a)(hl:acts.length≤1000):M0 205 [AV.agg w.cs,AV.list 3 (acts.map r3.cs)] [] (fun v:C7×List Bool×(Value×Value)×Value=>WI v.1) (fun v=>[.arr v.2.2.1.1 102 1 (v.1.Clocks.map S6.cs),.arr v.2.2.1.2 38 3 (v.1.Groups.map C1.cs),.arr v.2.2.2 4 1 (v.2.1.map fun b=>[AV.bool b])]) (fun v=>AV.tup [AV.agg (WP v.1 v.2.2.1.1 v.2.2.1.2),AV.is v.2.2.2]):=by
 refine C8 func205 rfl ntmps205 rfl ?_;refine R3 ?_;intro b2;refine R1 ?_;intro b4;refine zq88 ?_;refine R4 ?_;refine zI [] rfl call51 (Cj2 w hw) G6 rfl ?_;intro x13 ok13;refine R1 ?_;intro b6;refine R4 ?_;refine n1 4 1 rfl rfl rfl rfl L2 ?_;intro v7;refine R9 ?_;refine zL [1,1,1,0] ?_;refine DA7 [(4,_),(5,_),(6,_),(14,_),(15,_)] _ (fun (i:Nat) (v:C7) (z:Value×Value) (d:List Bool) (u:Value)=>(i≤acts.length∧d.length=i)∧WI v∧WQ v) (fun i v z d u=>[.box b6 32 (WP v z.1 z.2),.arr z.1 102 1 (v.Clocks.map S6.cs),.arr z.2 38 3 (v.Groups.map C1.cs),.arr u 4 1 (d.map fun b=>[AV.bool b])]) (fun i v z d u=>[(7,AV.is u),(16,AV.int i)]) (fun i v z d u=>acts.length-i) (0) (w) (x13) ([]) (v7) ?_ (I1 B7 A6) ?_
 ·exact⟨⟨E4 _,rfl⟩,hw,hq⟩
 intro i v z d u hinv;refine zK ?_ ?_
 ·intro h17 k17;have hlt:i<acts.length:=(by simpa using h17);obtain⟨a,hax⟩:=B2 hlt;have hsa:=ha a (C3 hax);refine R5 ?_;refine A1 rfl (C2 rfl underlying242 AB0 zA zA hax qz1) ?_;refine R2 ?_;intro b9;refine R6 ?_;refine zI [2,2] rfl call255 (Dg7 v z.1 z.2 a hinv.2.1 hinv.2.2 hsa) F3 rfl ?_;intro x23 ok23;refine R4 ?_;intro b10;refine zC ?_ ?_
  ·intro h26;refine R8 ?_;refine I0 (by':=1) 7 rfl rfl rfl rfl AE7 type4 rfl rfl rfl rfl rfl rfl zA zA rfl BX7 ?_;intro v31_1;refine R6 ?_;refine CG4 i v z d u (i+1) (x23.1.1) (x23.2) (d++[x23.1.2]) (v31_1) ?_ ?_ (Le.trans (B4 [0,0,0,2,2,0,0,0] rfl) (D5 4 BM4 A6))
   ·exact⟨⟨by omega,by rw[I2,hinv.1.2];rfl⟩,ok23 h26⟩
   omega
  intro h26;refine R5 ?_;refine I0 (by':=1) 7 rfl rfl rfl rfl AE7 type4 rfl rfl rfl rfl rfl rfl zA zA rfl BX7 ?_;intro v31_2;refine R6 ?_;refine CG4 i v z d u (i+1) (v) (z) (d++[x23.1.2]) (v31_2) ?_ ?_ (Le.trans (B4 [0,2,2,2,2,0,0,0] rfl) (D5 4 BM4 A6))
  ·exact⟨⟨by omega,by rw[I2,hinv.1.2];rfl⟩,hinv.2⟩
  omega
 intro h17 k17;refine R9 ?_;exact I9 [1,1,1] ((v,d,z,u)) (hinv.2.1) rfl B7 (j6 rfl E5 (G0 (F5 (ys:=_) 4 rfl rfl V5 P4 rfl) V6))
theorem CN5 (b:Nat)(code:List Int)(hcode:AJ3 code)(c:w6)(w:C7)(hw:WI w)(hp:c.p≤5000000):M0 256 [AV.ptr b 0,AV.agg w.cs] [.box b 77 (q8 code c)] (fun x:w6×r3=>x.1.p≤c.p+6∧AB4 x.2) (fun x=>[.box b 77 (q8 code x.1)]) (fun x=>AV.agg x.2.cs):=by
 have hng:=hw.n;have hcl:=hw.clocks.1;have htl:=hw.txns.1;have hll:=hw.looks.1;refine C8 func256 rfl ntmps256 rfl ?_;refine R3 ?_;intro b3;refine R1 ?_;intro b4;refine R12 ?_;refine zI [2] rfl call32 (V4 _ _ hcode _ _ Aj9 qz7) (A2 (A0 rfl) (A2 L1 A9)) rfl ?_;intro x10 ok10;refine zC ?_ ?_
 ·intro h11;refine R4 ?_;refine zq44 ?_;intro x15 ok15;refine R1 ?_;refine zq166 ?_;intro x17 ok17;refine R4 ?_
  (refine I9 [0] ((x17.1,⟨2,x15.2,x17.2⟩)) ?_ rfl z8 (O2 rfl (F5 (ys:=_) 1 rfl rfl AH2 AB0 rfl));(simp only[A8]at*;unfold AB4;dsimp only;exact⟨by omega,⟨⟨by omega,by omega⟩,by omega,by omega⟩⟩))
 intro h11;refine zC ?_ ?_
 ·intro h19;refine R4 ?_;refine zI [0] rfl call143 (AM7 _ _ hcode _ ([(3),(3),(4)]:List Int) E5 qz7) (A2 (A0 rfl) (A2 (A0 rfl) A9)) rfl ?_;intro x23 ok23;refine R2 ?_;refine zq44 ?_;intro x26 ok26;refine R4 ?_
  (refine I9 [0] ((x26.1,⟨x23.2,x26.2,0⟩)) ?_ rfl z8 (O2 rfl (F5 (ys:=_) 1 rfl rfl AH2 AB0 rfl));(simp only[A8]at*;unfold AB4;dsimp only;exact⟨by omega,⟨⟨by omega,by omega⟩,by omega,by omega⟩⟩))
 intro h19;refine zC ?_ ?_
 ·intro h28;refine R4 ?_;refine zI [0] rfl call143 (AM7 _ _ hcode _ ([(4),(5)]:List Int) E5 qz7) (A2 (A0 rfl) (A2 (A0 rfl) A9)) rfl ?_;intro x32 ok32;refine R2 ?_;refine zq44 ?_;intro x35 ok35;refine R4 ?_
  (refine I9 [0] ((x35.1,⟨x32.2,x35.2,0⟩)) ?_ rfl z8 (O2 rfl (F5 (ys:=_) 1 rfl rfl AH2 AB0 rfl));(simp only[A8]at*;unfold AB4;dsimp only;exact⟨by omega,⟨⟨by omega,by omega⟩,by omega,by omega⟩⟩))
 intro h28;refine zC ?_ ?_
 ·intro h37;refine R1 ?_;refine zL [2] ?_;refine P1 _ [(0,false),(1,false),(3,false),(4,false),(5,false),(6,false),(2,true),(7,true)] E3 E3 rfl (U8 1) ?_;refine R6 ?_;refine U2 rfl rfl rfl (S9 [1] rfl call143 rfl (AM7 _ _ hcode _ ([(5),(6)]:List Int) E5 qz7) (A2 (A0 rfl) (A2 (A0 rfl) A9)) rfl) (fun a _=>qz3) ?_;intro x41 ok41;refine U2 rfl rfl rfl (S9 [2] rfl call32 rfl (V4 _ _ hcode _ _ Aj9 qz7) (A2 (A0 rfl) (A2 (A0 rfl) A9)) rfl) (fun a _=>qz3) ?_;intro x46 ok46;refine R5 ?_
  (refine I9 [2] ((x46.1,⟨x41.2,x46.2,0⟩)) ?_ rfl z8 (O2 rfl (F5 (ys:=_) 1 rfl rfl AH2 AB0 rfl));(simp only[A8]at*;unfold AB4;dsimp only;exact⟨by omega,⟨⟨by omega,by omega⟩,by omega,by omega⟩⟩))
 intro h37;refine zC ?_ ?_
 ·intro h48;refine zC ?_ ?_
  ·intro h48;refine R3 ?_;refine zq166 ?_;intro x52 ok52;refine R5 ?_
   (refine I9 [0] ((x52.1,⟨1,1+x52.2,0⟩)) ?_ rfl z8 (O2 rfl (F5 (ys:=_) 1 rfl rfl AH2 AB0 rfl));(simp only[A8]at*;unfold AB4;dsimp only;exact⟨by omega,⟨⟨by omega,by omega⟩,by omega,by omega⟩⟩))
  intro hz9;rw[h48]at hz9;cases hz9
 intro h48;refine zC ?_ ?_
 ·intro h48;refine R3 ?_;refine zq166 ?_;intro x52 ok52;refine R5 ?_
  (refine I9 [0] ((x52.1,⟨1,1+x52.2,0⟩)) ?_ rfl z8 (O2 rfl (F5 (ys:=_) 1 rfl rfl AH2 AB0 rfl));(simp only[A8]at*;unfold AB4;dsimp only;exact⟨by omega,⟨⟨by omega,by omega⟩,by omega,by omega⟩⟩))
 intro h48;refine zC ?_ ?_
 ·intro h55;refine R1 ?_;refine zL [2] ?_;refine P1 _ [(0,false),(1,false),(3,false),(4,false),(5,false),(6,false),(2,true),(7,false),(8,true)] E3 E3 rfl (U8 1) ?_;refine R6 ?_;refine U2 rfl rfl rfl (S9 [1] rfl call143 rfl (AM7 _ _ hcode _ ([(8),(9),(9),(9)]:List Int) E5 qz7) (A2 (A0 rfl) (A2 (A0 rfl) A9)) rfl) (fun a _=>qz3) ?_;intro x59 ok59;refine N0 rfl rfl rfl (fun ext=>zG rfl call193 (AH8 _ _) (A2 L1 G6)) ?_;refine U2 rfl rfl rfl (S9 [2] rfl call32 rfl (V4 _ _ hcode _ _ Aj9 qz7) (A2 (A0 rfl) (A2 (A0 rfl) A9)) rfl) (fun a _=>qz3) ?_;intro x65 ok65;refine R5 ?_
  (refine I9 [2] ((x65.1,⟨x59.2,x65.2,0⟩)) ?_ rfl z8 (O2 rfl (F5 (ys:=_) 1 rfl rfl AH2 AB0 rfl));(simp only[A8]at*;unfold AB4;dsimp only;exact⟨by omega,⟨⟨by omega,by omega⟩,by omega,by omega⟩⟩))
 intro h55;refine zC ?_ ?_
 ·intro h67;refine zC ?_ ?_
  ·intro h67;refine R6 ?_;refine zq197 ?_;refine zq44 ?_;intro x75 ok75;refine R4 ?_
   (refine I9 [0] ((x75.1,⟨10,x75.2,0⟩)) ?_ rfl z8 (O2 rfl (F5 (ys:=_) 1 rfl rfl AH2 AB0 rfl));(simp only[A8]at*;unfold AB4;dsimp only;exact⟨by omega,⟨⟨by omega,by omega⟩,by omega,by omega⟩⟩))
  intro hz9;rw[h67]at hz9;cases hz9
 intro h67;refine zC ?_ ?_
 ·intro h67;refine R6 ?_;refine zq197 ?_;refine zq44 ?_;intro x75 ok75;refine R4 ?_
  (refine I9 [0] ((x75.1,⟨10,x75.2,0⟩)) ?_ rfl z8 (O2 rfl (F5 (ys:=_) 1 rfl rfl AH2 AB0 rfl));(simp only[A8]at*;unfold AB4;dsimp only;exact⟨by omega,⟨⟨by omega,by omega⟩,by omega,by omega⟩⟩))
 intro h67;refine R7 ?_;refine zq197 ?_;refine zq44 ?_;intro x82 ok82;refine R4 ?_
 (refine I9 [0] ((x82.1,⟨7,x82.2,0⟩)) ?_ rfl z8 (O2 rfl (F5 (ys:=_) 1 rfl rfl AH2 AB0 rfl));(simp only[A8]at*;unfold AB4;dsimp only;exact⟨by omega,⟨⟨by omega,by omega⟩,by omega,by omega⟩⟩))
theorem DI1 (b:Nat)(code:List Int)(hcode:AJ3 code)(c:w6)(w:C7)(most:Int)(hw:WI w)(hm:0≤most∧most≤100)(hp:c.p≤4000000):M0 206 [AV.ptr b 0,AV.agg w.cs,AV.int most] [.box b 77 (q8 code c)] (fun x:w6×List r3×Value=>x.1.p≤c.p+1000∧x.2.1.length≤101∧∀a∈x.2.1,AB4 a) (fun x=>[.box b 77 (q8 code x.1),.arr x.2.2 277 3 (x.2.1.map r3.cs)]) (fun x=>AV.is x.2.2):=by
 refine C8 func206 rfl ntmps206 rfl ?_;refine R3 ?_;intro b4;refine zq88 ?_;refine R3 ?_;refine n1 277 3 rfl rfl rfl rfl L2 ?_;intro v7;refine R7 ?_;refine zI [2] rfl call32 (V4 _ _ hcode _ _ qz7 qz7) (A2 (A0 rfl) (A2 (A0 rfl) A9)) rfl ?_;intro x12 ok12;obtain⟨n0,hn0⟩:∃n0:Nat,x12.2=n0:=⟨x12.2.toNat,by omega⟩;refine R3 ?_;refine zL [0,0] ?_;refine Ab2 [(0,_),(4,_),(6,_)] _ (fun (n:Nat) (cc:w6) (l:List r3) (v:Value)=>n+l.length=n0∧cc.p≤c.p+2+6*l.length∧∀a∈l,AB4 a) (fun n cc l v=>[.box b 77 (q8 code cc),.arr v 277 3 (l.map r3.cs)]) (fun n cc l v=>[(7,AV.is v),(8,AV.int n)]) (fun n cc l v=>n) (n0) (x12.1) ([]) (v7) ?_ (I1 B7 ⟨rfl,F2 (fun z=>some (AV.int z)) qz7,rfl,rfl,rfl,trivial⟩) ?_
 ·exact⟨by simp,by omega,fun a h=>by cases h⟩
 intro n cc l v hinv;refine zK ?_ ?_
 ·intro h14 k14;refine R7 ?_;refine zI [0] rfl call256 (CN5 _ _ hcode _ w hw qz7) (A2 (A0 rfl) (A2 (A0 rfl) A9)) rfl ?_;intro x20 ok20;refine R1 ?_;refine I0 (by':=24) 1 rfl rfl rfl rfl underlying242 type277 rfl rfl rfl rfl rfl rfl zA zA rfl BX7 ?_;intro v22_1;refine R7 ?_;refine AF1 n cc l v (n-1) (x20.1) (l++[x20.2]) (v22_1) ?_ ?_ (Le.trans (B4 [0,0] rfl) (I1 BM4 ⟨rfl,F2 (fun z=>some (AV.int z)) qz7,rfl,rfl,rfl,trivial⟩))
  ·exact⟨by rw[I2,J7,T5];omega,by rw[I2,J7,T5];omega,fun a ha=>(y6.1 ha).elim (hinv.2.2 a) fun e=>by (rw[i6.1 e];exact ok20.2)⟩
  omega
 intro h14 k14;refine R7 ?_
 (refine I9 [0,0] ((cc,l,v)) ?_ rfl z8 Q4;exact⟨show cc.p≤_ by omega,show l.length≤101 by omega,hinv.2.2⟩)
theorem Bt2 (b:Nat)(code:List Int)(hcode:AJ3 code)(c:w6)(w:C7)(most:Int)(hw:WI w)(hm:0≤most∧most≤100)(hp:c.p≤4000000):M0 206 [AV.ptr b 0,AV.agg w.cs,AV.int most] [.box b 77 (q8 code c)] (fun x:w6×List r3=>x.1.p≤c.p+1000∧x.2.length≤101∧∀a∈x.2,AB4 a) (fun x=>[.box b 77 (q8 code x.1)]) (fun x=>AV.list 3 (x.2.map r3.cs)):=
  Aj2 (fun x=>(x.1,x.2.1)) (fun x=>[.arr x.2.2 277 3 (x.2.1.map r3.cs)]) (fun x=>[.box b 77 (q8 code x.1)]) (DI1 b code hcode c w most hw hm hp) (fun _ h=>h) (fun x _=>K2 (i6.2 rfl) G3) (fun x _=>AQ0 (l₁:=[_])) (fun _ _=>AB1 0 rfl rfl M6) (fun x _=>Bv6 ⟨rfl,rfl,AP0⟩ CH8)
theorem BX0 (b:Nat)(code:List Int)(hcode:AJ3 code)(c:w6)(hp:c.p≤3000000):M0 30 [AV.ptr b 0] [.box b 77 (q8 code c)] (fun x:w6×List (List TOp)×Value=>x.1.p≤c.p+500∧x.2.1.length≤4∧∀p∈x.2.1,DA3 p) (fun x=>[.box b 77 (q8 code x.1),.arr x.2.2 84 1 (x.2.1.map fun l=>[AV.list 4 (l.map TOp.cs)])]) (fun x=>AV.is x.2.2):=by
 refine C8 func30 rfl ntmps30 rfl ?_;refine zq149 ?_;refine n1 84 1 rfl rfl rfl rfl L2 ?_;intro v3;refine R5 ?_;refine zq61 ?_;intro x6 ok6;obtain⟨n0,hn0⟩:∃n0:Nat,x6.2=n0:=⟨x6.2.toNat,by omega⟩;refine R4 ?_;refine zL [0,0] ?_;refine Ab2 [(0,_),(2,_)] _ (fun (n:Nat) (cc:w6) (l:List (List TOp)) (v:Value)=>n+l.length=1+n0∧cc.p≤c.p+2+100*l.length∧∀p∈l,DA3 p) (fun n cc l v=>[.box b 77 (q8 code cc),.arr v 84 1 (l.map fun l=>[AV.list 4 (l.map TOp.cs)])]) (fun n cc l v=>[(3,AV.is v),(4,AV.int n)]) (fun n cc l v=>n) (1+n0) (x6.1) ([]) (v3) ?_ (I1 B7 ⟨rfl,F2 (fun z=>some (AV.int z)) qz7,rfl,rfl,trivial⟩) ?_
 ·exact⟨by simp,by simp;omega,fun a h=>by cases h⟩
 intro n cc l v hinv;refine zK ?_ ?_
 ·intro h9 k9;refine R6 ?_;refine zI [0] rfl call103 (DF9 _ _ hcode _ qz7) (A2 (A0 rfl) A9) rfl ?_;intro x14 ok14;refine O7 1 rfl fun one_x14_2_2=> ?_;refine Bv3 (AI8 [1] 14 rfl rfl (K2 (C3 (i:=0) rfl) G3) (AB1 0 rfl rfl M6)) ?_;refine R1 ?_;refine I0 (by':=24) 1 rfl rfl rfl rfl AL6 type84 rfl rfl rfl rfl rfl rfl zA zA rfl BX7 ?_;intro v16_1;refine R7 ?_;refine AF1 n cc l v (n-1) (x14.1) (l++[x14.2.1]) (v16_1) ?_ ?_ (Le.trans (B4 [0,0] rfl) (I1 BM4 ⟨rfl,F2 (fun z=>some (AV.int z)) qz7,rfl,rfl,trivial⟩))
  ·exact⟨by rw[I2,J7,T5];omega,by rw[I2,J7,T5];omega,fun a ha=>(y6.1 ha).elim (hinv.2.2 a) fun e=>by (rw[i6.1 e];exact⟨De0 qz7 ok14.2.2,ok14.2.1.1⟩)⟩
  omega
 intro h9 k9;refine R7 ?_
 (refine I9 [0,0] ((cc,l,v)) ?_ rfl z8 Q4;exact⟨show cc.p≤_ by omega,show l.length≤4 by omega,hinv.2.2⟩)
theorem Av4 (b:Nat)(code:List Int)(hcode:AJ3 code)(c:w6)(hp:c.p≤3000000):M0 30 [AV.ptr b 0] [.box b 77 (q8 code c)] (fun x:w6×List (List TOp)=>x.1.p≤c.p+500∧x.2.length≤4∧∀p∈x.2,DA3 p) (fun x=>[.box b 77 (q8 code x.1)]) (fun x=>AV.list 1 (x.2.map fun l=>[AV.list 4 (l.map TOp.cs)])):=
  Aj2 (fun x=>(x.1,x.2.1)) (fun x=>[.arr x.2.2 84 1 (x.2.1.map fun l=>[AV.list 4 (l.map TOp.cs)])]) (fun x=>[.box b 77 (q8 code x.1)]) (BX0 b code hcode c hp) (fun _ h=>h) (fun x _=>K2 (i6.2 rfl) G3) (fun x _=>AQ0 (l₁:=[_])) (fun _ _=>AB1 0 rfl rfl M6) (fun x _=>Bv6 ⟨rfl,rfl,AP0⟩ CH8)
theorem CN6 (b:Nat)(code:List Int)(hcode:AJ3 code)(c:w6)(hp:c.p≤3000000):M0 33 [AV.ptr b 0] [.box b 77 (q8 code c)] (fun x:w6×List (List Str)×Value=>x.1.p≤c.p+100∧x.2.1.length≤4∧∀p∈x.2.1,CX4 p) (fun x=>[.box b 77 (q8 code x.1),.arr x.2.2 25 1 (x.2.1.map fun l=>[strs l])]) (fun x=>AV.is x.2.2):=by
 refine C8 func33 rfl ntmps33 rfl ?_;refine zq149 ?_;refine n1 25 1 rfl rfl rfl rfl L2 ?_;intro v3;refine R5 ?_;refine zq61 ?_;intro x8 ok8;obtain⟨n0,hn0⟩:∃n0:Nat,x8.2=n0:=⟨x8.2.toNat,by omega⟩;refine R3 ?_;refine zL [0,0] ?_;refine Ab2 [(0,_),(2,_)] _ (fun (n:Nat) (cc:w6) (l:List (List Str)) (v:Value)=>(n+l.length=n0∧n0≤2)∧cc.p≤c.p+2+20*l.length∧∀p∈l,CX4 p) (fun n cc l v=>[.box b 77 (q8 code cc),.arr v 25 1 (l.map fun l=>[strs l])]) (fun n cc l v=>[(3,AV.is v),(4,AV.int n)]) (fun n cc l v=>n) (n0) (x8.1) ([]) (v3) ?_ (I1 B7 ⟨rfl,F2 (fun z=>some (AV.int z)) qz7,rfl,rfl,trivial⟩) ?_
 ·exact⟨⟨by simp,by omega⟩,by simp;omega,fun a h=>by cases h⟩
 intro n cc l v hinv;refine zK ?_ ?_
 ·intro h10 k10;have hinv0:=hinv;refine R5 ?_;refine n1 9 1 rfl rfl rfl rfl L2 ?_;intro v5;refine R5 ?_;refine zq61 ?_;intro x14 ok14;obtain⟨m0,hm0⟩:∃m0:Nat,x14.2=m0:=⟨x14.2.toNat,by omega⟩;refine R4 ?_;refine zL [0,0,0] ?_;refine Ab2 [(0,_),(2,_),(3,_),(4,_),(9,_),(10,_),(13,_),(14,_),(15,_)] _ (fun (m:Nat) (c2:w6) (rs:List Str) (u:Value)=>(m+rs.length≤1+m0∧(m=1+m0∨1≤rs.length))∧c2.p+2*m≤cc.p+4+2*m0∧AP2 rs∧∀k∈rs,k∈AI5) (fun m c2 rs u=>[.box b 77 (q8 code c2),.arr u 9 1 (rs.map fun t=>[AV.str t]),.arr v 25 1 (l.map fun l=>[strs l])]) (fun m c2 rs u=>[(5,AV.is u),(6,AV.int m)]) (fun m c2 rs u=>m) (1+m0) (x14.1) ([]) (v5) ?_ (I1 B7 ⟨rfl,F2 (fun z=>some (AV.int z)) qz7,rfl,rfl,rfl,rfl,rfl,rfl,rfl,rfl,rfl,trivial⟩) ?_
  ·exact⟨⟨by simp,.inl rfl⟩,by omega,List.Pairwise.nil,fun k hk=>by cases hk⟩
  intro m c2 rs u hinv;refine zK ?_ ?_
  ·intro h17 k17;refine R6 ?_;refine zI [0] rfl call106 (Bz9 _ _ hcode _ qz7) (A2 (A0 rfl) A9) rfl ?_;intro x22 ok22;refine zI [1] rfl call105 (Ah5 u rs x22.2 hinv.2.2.1 qz7) F3 rfl ?_;intro x23 ok23;refine R7 ?_;refine AF1 m c2 rs u (m-1) (x22.1) (AE9 rs x22.2) (x23) ?_ ?_ (Le.trans (B4 [1,0,0] rfl) (I1 B7 ⟨rfl,F2 (fun z=>some (AV.int z)) qz7,rfl,rfl,rfl,rfl,rfl,rfl,rfl,rfl,rfl,trivial⟩))
   ·(have h9:=Bg8 x22.2 rs;have h6:1≤(AE9 rs x22.2).length:=putS_pos x22.2 rs;exact⟨⟨by omega,.inr h6⟩,by omega,(Av1 hinv.2.2.1).1,fun k hk=>by (rcases((Av1 hinv.2.2.1).2 k).1 hk with hk|hk;(exact hinv.2.2.2 k hk);(rw[hk];exact ok22.2))⟩)
   omega
  intro h17 k17;refine R4 ?_;refine O7 1 rfl fun one_u=> ?_;refine Bv3 (AI8 [1] 25 rfl rfl (K2 (C3 (i:=0) rfl) G3) (AB1 0 rfl rfl M6)) ?_;refine R1 ?_;refine I0 (by':=24) 1 rfl rfl rfl rfl AD2 type25 rfl rfl rfl rfl rfl rfl zA zA rfl BX7 ?_;intro v27_1;refine R7 ?_;refine AF1 n cc l v (n-1) (c2) (l++[rs]) (v27_1) ?_ ?_ (Le.trans (B4 [0,0] rfl) (I1 BM4 ⟨rfl,F2 (fun z=>some (AV.int z)) qz7,rfl,rfl,trivial⟩))
  ·exact⟨⟨by rw[I2,J7,T5];omega,by omega⟩,by rw[I2,J7,T5];omega,fun a ha=>(y6.1 ha).elim (hinv0.2.2 a) fun e=>by (rw[i6.1 e];exact⟨⟨by omega,by omega⟩,hinv.2.2.1,hinv.2.2.2⟩)⟩
  omega
 intro h10 k10;refine R7 ?_
 (refine I9 [0,0] ((cc,l,v)) ?_ rfl z8 Q4;exact⟨show cc.p≤_ by omega,show l.length≤4 by omega,hinv.2.2⟩)
theorem AP1 (b:Nat)(code:List Int)(hcode:AJ3 code)(c:w6)(hp:c.p≤3000000):M0 33 [AV.ptr b 0] [.box b 77 (q8 code c)] (fun x:w6×List (List Str)=>x.1.p≤c.p+100∧x.2.length≤4∧∀p∈x.2,CX4 p) (fun x=>[.box b 77 (q8 code x.1)]) (fun x=>AV.list 1 (x.2.map fun l=>[strs l])):=
  Aj2 (fun x=>(x.1,x.2.1)) (fun x=>[.arr x.2.2 25 1 (x.2.1.map fun l=>[strs l])]) (fun x=>[.box b 77 (q8 code x.1)]) (CN6 b code hcode c hp) (fun _ h=>h) (fun x _=>K2 (i6.2 rfl) G3) (fun x _=>AQ0 (l₁:=[_])) (fun _ _=>AB1 0 rfl rfl M6) (fun x _=>Bv6 ⟨rfl,rfl,AP0⟩ CH8)
end Go.PQ