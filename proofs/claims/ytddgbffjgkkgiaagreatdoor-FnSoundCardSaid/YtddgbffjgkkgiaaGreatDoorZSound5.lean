/- Texts of the claim, part 5. -/
import Derived.Test.YtddgbffjgkkgiaaGreatDoorZSound4
set_option linter.defProp false
set_option linter.unusedVariables false
set_option linter.unusedSimpArgs false
set_option maxRecDepth 100000
set_option maxHeartbeats 4000000
namespace Go.M
open Go.AV
theorem Cb5 {l:List B1}(h:adj X6 l=true)(k:Str):BE6 l k=AW6 l k:=by
  have e:=findW_eq h k
  cases hw:BE6 l k with
  | true=>
    obtain⟨x,hx,hk⟩:=BR6.1 hw;exact(Ab6.2 ⟨x,C3 hx,hk⟩).symm
  | false=>
    rw[hw]at e;simp only[Bool.false_eq_true,if_false]at e;unfold findW at e;rw[List.find?_eq_none]at e
    cases hk:AW6 l k with
    |false=>rfl
    |true=>obtain⟨x,hx,hxk⟩:=Ab6.1 hk;have:=e x hx;simp[hxk]at this
theorem DR2 {w:List B1}(h:AI3 w=true):adj X6 w=true:=by
  unfold AI3 u4 O8 at h;simp only[F0]at h;have:=h.1.2.2;rw[Bv7]at this;exact this
theorem Db4 {l:List B8}(ha:adj u7 l=true){k:Str}{c:B8}(hc:Ar1 l k=true→l[AK2 l k]? =some c):Ak9 l k=(Ar1 l k&&decide ((16:Int)≤(c.Vers.length:Int))):=by
  unfold Ak9;rw[BR7 ha]
  cases h:Ar1 l k with
  |false=>simp
  | true=>
    rw[D9 rfl,hc h,Bool.true_and];dsimp only;rw[decide_eq_decide];omega
theorem AM0 {l:List E0}{i:Nat}{h:E0}{n:Nat}(hs:D2 E0.size l≤n)(hx:l[i]? =some h):h.size≤n∧D2 B1.size h.Writes≤n∧h.Writes.length≤n∧h.Reads.length≤n∧(AW5 h).size≤n:=by
  have h1:=L7 (W4 hx) hs;have h2:h.size=D2 (fun x=>x.length) h.Reads+D2 B1.size h.Writes:=rfl;have h3:=M7 (f:=fun x:Str=>x.length) (l:=h.Reads);have h4:=M7 (f:=B1.size) (l:=h.Writes);have h5:(AW5 h).size=D2 (fun x=>x.length) h.Reads+D2 B1.size h.Writes:=rfl;exact⟨by omega,by omega,by omega,by omega,by omega⟩
theorem Cg0 {α:Type}{f:α→Nat}{l:List α}(i:Nat):D2 f (l.take i)≤D2 f l:=by
  have:=An2 (f:=f) (l:=l.take i) (r:=l.drop i);rw[Ak4]at this;omega
theorem CT6 :∀{l:List E0},(hWs l).length≤D2 E0.size l
  |[]=>E4 _
  | h::l=>by
    have ih:=CT6 (l:=l);have h4:=M7 (f:=B1.size) (l:=h.Writes);have h2:h.size=D2 (fun x=>x.length) h.Reads+D2 B1.size h.Writes:=rfl;rw[BD4,I2,i4];omega
theorem Cs0 {l:List E0}{i:Nat}{h:E0}(hx:l[i]? =some h):hWs (l.take (i+1))=hWs (l.take i)++h.Writes:=by
  rw[X3,hx,Bh0];show _++hWs [h]=_
  rw[BD4];simp[hWs]
def tCmp (n:Int)(t:H2):Int:=AR2 t.Txn n
def hCmp (n:Int)(h:E0):Int:=AR2 h.Txn n
def Ak0 (l:List E0)(n:Int):Nat:=bs (hCmp n) l 0 l.length
def BB8 (l:List E0)(n:Int):Bool:=Ao3 (hCmp n) l (Ak0 l n)
def BB9 (l:List H2)(n:Int):Nat:=bs (tCmp n) l 0 l.length
def CX2 (l:List H2)(n:Int):Bool:=Ao3 (tCmp n) l (BB9 l n)
theorem Bi2 (a b:Int):AR2 a b<0↔a<b:=by unfold AR2;split<;>(try split)<;>omega
theorem BH1 (a b:Int):AR2 a b=0↔a=b:=by unfold AR2;split<;>(try split)<;>omega
theorem BQ4 {α:Type}{f:α→Int}{l:List α}(h:l.Pairwise fun a b=>f a<f b){i j:Nat}{x y:α}(hij:i<j)(hx:l[i]? =some x)(hy:l[j]? =some y):f x<f y:=by
  obtain⟨i1,i2⟩:=G1.1 hx;obtain⟨j1,j2⟩:=G1.1 hy;have:=List.pairwise_iff_getElem.1 h i j i1 j1 hij;rw[i2,j2]at this;exact this
theorem CE0 {α:Type}{f:α→Int}{l:List α}(h:l.Pairwise fun a b=>f a<f b)(n:Int):(∀i x,i<bs (fun a=>AR2 (f a) n) l 0 l.length→l[i]? =some x→f x<n)∧(∀x,l[bs (fun a=>AR2 (f a) n) l 0 l.length]? =some x→n≤f x):=by
  have:=CS1 (fun a=>AR2 (f a) n) l (fun i j x y hij hx hy hf=>by
    rw[Bi2]at*;have:=BQ4 h hij hx hy;omega) l.length 0 l.length rfl (E4 _) (K9 _) (fun k x hk=>by omega) (fun x hx=>by rw[AZ8 (K9 _)]at hx;cases hx)
  exact⟨fun i x hi hx=>(Bi2 _ _).1 (this.1 i x hi hx),fun x hx=>by have:=this.2 x hx;rw[Bi2]at this;omega⟩
theorem DL2 {α:Type} {f:α→Int} {l:List α} (h:l.Pairwise fun a b=>f a<f b) (n:Int):Ao3 (fun a=>AR2 (f a) n) l (bs (fun a=>AR2 (f a) n) l 0 l.length)=l.any fun a=>f a==n:=by
  obtain⟨h1,h2⟩:=CE0 h n
  cases ha:l.any fun a=>f a==n with
  | true=>
    rw[List.any_eq_true]at ha;obtain⟨x,hx,e⟩:=ha;obtain⟨i,hi⟩:=i5 hx;have e:f x=n:=by simpa using e
    have hip:bs (fun a=>AR2 (f a) n) l 0 l.length=i:=by
      rcases Nat.lt_trichotomy i (bs (fun a=>AR2 (f a) n) l 0 l.length)with h3|h3|h3
      ·have:=h1 i x h3 hi;omega
      ·exact h3.symm
      · have hl:=(G1.1 hi).1
        have hy:=Q5 (show bs (fun a=>AR2 (f a) n) l 0 l.length<l.length by omega);have h4:=h2 _ hy;have h5:=BQ4 h h3 hy hi;omega
    rw[hip];unfold Ao3;rw[hi];simp only[(BH1 _ _).2 e];rfl
  | false=>
    rw[List.any_eq_false]at ha;unfold Ao3
    cases e:l[bs (fun a=>AR2 (f a) n) l 0 l.length]? with
    |none=>rfl
    | some x=>
      have:=ha x (C3 e);simp only[m6]at this⊢;rw[beq_eq_false_iff_ne];exact fun k=>this ((BH1 _ _).1 k)
theorem Ap6 {l:List E0}(h:l.Pairwise fun a b=>a.Txn<b.Txn)(n:Int):BB8 l n=AO2 l n:=DL2 (f:=E0.Txn) h n
theorem Bc3 {l:List H2}(h:l.Pairwise fun a b=>a.Txn<b.Txn)(n:Int):CX2 l n=AU2 l n:=DL2 (f:=H2.Txn) h n
theorem AB6 {s:E1}{n:Nat}(h:s.size≤n):D2 B8.size s.Cells≤n∧D2 E0.size s.Held≤n∧s.Told.length≤n∧s.Cells.length≤n∧s.Held.length≤n:=by
  have h1:s.size=D2 B8.size s.Cells+D2 E0.size s.Held+s.Told.length:=rfl;have h2:=M7 (f:=B8.size) (l:=s.Cells);have h3:=M7 (f:=E0.size) (l:=s.Held);exact⟨by omega,by omega,by omega,by omega,by omega⟩
theorem BJ5 {s:E1}{i:Nat}{h y:E0}(hx:s.Held[i]? =some h)(hy:s.Held[i-1]? =some y):Aa3 s i=(!(((!T8 (AW5 h)||decide (s.Floor<h.Time))||(decide ((0:Int)<(i:Int))&&decide (h.Txn≤y.Txn))))&&(!((s.Held.take i).any fun g=>Aq4 h g)&& !(h.Writes.any fun w=>decide (h.Time≤O5 s.Cells w.Key)))):=by
  unfold Aa3;rw[hx];have h1:CO7 s.Held i h.Txn= !(decide ((0:Int)<(i:Int))&&decide (h.Txn≤y.Txn)):=by
    unfold CO7;rw[hy];dsimp only;congr 2
    rw[decide_eq_decide];omega
  have h2:((s.Held.take i).all fun g=>apart g h.Reads h.Writes)= !((s.Held.take i).any fun g=>Aq4 h g):=by
    rw[List.not_any_eq_all_not];congr 1;funext g;rw[BY7,Bool.not_not]
  have h3:(h.Writes.all fun w=>decide (O5 s.Cells w.Key<h.Time))= !(h.Writes.any fun w=>decide (h.Time≤O5 s.Cells w.Key)):=by
    rw[List.not_any_eq_all_not];congr 1;funext w;rw[←decide_not,decide_eq_decide];omega
  dsimp only;rw[h1,h2,h3];simp only[Bool.not_or,Bool.not_not,Bool.and_assoc]
theorem Bz1 {s:E1}{i:Nat}{h:E0}(hx:s.Held[i]? =some h)(hg:Aa3 s i=true):T8 (AW5 h)=true∧∀g,0<i→s.Held[i-1]? =some g→g.Txn<h.Txn:=by
  unfold Aa3 at hg;rw[hx]at hg;simp only[F0,Bp1]at hg;exact⟨hg.1.1.1.1,hg.1.1.2⟩
theorem BS4 {h:E0}(hg:T8 (AW5 h)=true):adj X6 h.Writes=true:=by
  unfold T8 AW5 at hg;rw[D9 rfl]at hg;unfold BI0 at hg;simp only[F0]at hg;exact DR2 hg.1.1.2
theorem Cs1 {s:E1}(h:AG1 s=true):s.Held.Pairwise fun a b=>a.Txn<b.Txn:=by
  unfold AG1 at h;rw[F0,An3]at h;exact Bh1 fun i x y h0 hx hy=>(Bz1 hx (h.1 i (G1.1 hx).1)).2 y h0 hy
theorem BW2 {s:E1}{i:Nat}{t y:H2}(hx:s.Told[i]? =some t)(hy:s.Told[i-1]? =some y):Ai6 s i=(!((!AS7 t.Txn|| !((t.Yes&&within t.Time 1 s.Floor)||(!t.Yes&&(t.Time==0))))||(decide ((0:Int)<(i:Int))&&decide (t.Txn≤y.Txn)))&& !AO2 s.Held t.Txn):=by
  unfold Ai6;rw[hx];have h1:CO8 s.Told i t.Txn= !(decide ((0:Int)<(i:Int))&&decide (t.Txn≤y.Txn)):=by
    unfold CO8;rw[hy];dsimp only;congr 2
    rw[decide_eq_decide];omega
  have h2:BP1 s t=((t.Yes&&within t.Time 1 s.Floor)||(!t.Yes&&(t.Time==0))):=by
    unfold BP1;cases t.Yes<;>simp
  dsimp only;rw[h1,h2];generalize ((t.Yes&&within t.Time 1 s.Floor)||(!t.Yes&&(t.Time==0)))=b
  simp only[Bool.not_or,Bool.not_not,Bool.and_assoc]
end Go.M
namespace Go.PQ
open Go.Proofs Go.Proofs.Tryz
open Go Go.AV Go.M
attribute [local irreducible] OpW OpA OpS AWP J6 L6 K3 OpE K4 I5 L0 Le Ev G4 L9 Int.tmod Int.tdiv IntKind.wrap
theorem Cg1 (w:B1)(os:List B1)(rs:List Str)(hs:os.length≤4611686018427387903)(ha:adj X6 os=true):D6 362 [AV.agg w.cs,AV.eptr [AV.list 3 (os.map B1.cs)],AV.eptr [strs rs]] (AV.bool (AW6 os w.Key||BT8 rs w.Key)):=by
  have hwh:=Cb5 ha w.Key;refine B0 func362 rfl ntmps362 rfl ?_;refine R3 ?_;intro b3;refine R7 ?_;refine zF rfl call258 (BD9 _ _ qz7) (A2 (A0 rfl) (A2 (A0 rfl) A9)) ?_;refine R13 ?_;refine S0 rfl (fun hc=>zG rfl call363 (Bm8 _ _) zS) ?_;refine R4 ?_;exact D1 rfl (A5 rfl (by exact F2 AV.bool (by rw[hwh];rfl)))
theorem Bq5 (ws:List B1)(rs:List Str)(os:List B1)(hs:os.length≤4611686018427387903)(ha:adj X6 os=true):D6 335 [AV.list 3 (ws.map B1.cs),strs rs,AV.list 3 (os.map B1.cs)] (AV.bool (Bd5 ws rs os)):=by
  refine B0 func335 rfl ntmps335 rfl ?_;refine R2 ?_;refine CR7 rfl rfl rfl rfl zA (CB5 _ _) ?_;intro b4;refine CR7 rfl rfl rfl rfl zA (CB5 _ _) ?_;intro b5;refine R5 ?_;refine A1 rfl (Ag8 rfl rfl F3) ?_;refine A1 rfl (n2 rfl call288 rfl (Ab9 _ _ _ Au5) (T9 _) (N7 (evb (A0 rfl)) (N7 (AC7 (Bf6 0 1 (A0 rfl) rfl rfl) (AL4 call362 (fun w (_:True)=>Cg1 w _ _ X9 AI6))) o8))) ?_;exact zq158
theorem DR3 (h k:E0)(h1:h.Writes.length≤4611686018427387903)(k1:k.Writes.length≤4611686018427387903)(ha:adj X6 h.Writes=true)(ka:adj X6 k.Writes=true):D6 298 [AV.agg h.cs,AV.agg k.cs] (AV.bool (Aq4 h k)):=by
  refine B0 func298 rfl ntmps298 rfl ?_;refine R3 ?_;intro b2;refine R1 ?_;intro b3;refine R10 ?_;refine zF rfl call335 (Bq5 _ _ _ X9 AI6) (A2 (A0 rfl) (A2 (A0 rfl) (A2 (A0 rfl) A9))) ?_;refine R7 ?_;refine S0 rfl (fun hc=>zG rfl call335 (Bq5 _ _ _ X9 AI6) (A2 (A7 rfl hc) (A2 (A7 rfl hc) (A2 (A7 rfl hc) A9)))) ?_;exact zq114
theorem Cs2 (h:E0):D6 295 [AV.agg h.cs] (AV.agg (AW5 h).cs):=by
  refine B0 func295 rfl ntmps295 rfl ?_;refine R3 ?_;intro b1;refine R1 ?_;intro b2;refine R17 ?_;exact D1 rfl (F5 (ys:=_) 0 rfl rfl AK0 y9 rfl)
theorem CD3 {l:List B8}{h:List E0}(a b:Nat)(hl:D2 B8.size l≤1048576)(hh:D2 E0.size h≤1048576):(AA8 (l.take a)++O8 (hWs (h.take b))).length≤2097152:=by
  have h1:=M7 (f:=B8.size) (l:=l);have h2:=CT6 (l:=h.take b);have h3:=Cg0 (f:=E0.size) (l:=h) b;unfold AA8 O8;simp only[I2,A8,H0];omega
theorem Cb6 (s:E1)(held:List E0)(hg:o1 s.Cells=true)(hs:s.size≤1048576)(hh:D2 E0.size held≤1048576):D6 300 [AV.agg s.cs,AV.list 5 (held.map E0.cs)] (AV.bool (decide (held.length≤12)&&room s.Cells (hWs held))):=by
 obtain⟨hs1,hs2,hs3,hs4,hs5⟩:=AB6 hs;have hca:=(AF3 hg).2.1;have hhl:=M7 (f:=E0.size) (l:=held);obtain⟨p,hp⟩:∃p:B1→Bool,p=fun w=> !Ak9 s.Cells w.Key:=⟨_,rfl⟩;refine B0 func300 rfl ntmps300 rfl ?_;refine R3 ?_;intro b2;refine R4 ?_;refine S3 rfl rfl rfl rfl E2 I6 ?_;intro v14;refine R11 ?_;refine W1 [(1,_),(2,_),(4,_),(16,_),(17,_)] _ (fun (i:Nat) (v:Value) (ks:List Str)=>i≤s.Cells.length∧ks=AA8 (s.Cells.take i)) (fun i v ks=>[.arr v 9 1 (ks.map fun k=>[AV.str k])]) (fun i v ks=>[(5,AV.is v),(18,AV.int i)]) (fun i v ks=>s.Cells.length-i) (0) (v14) ([]) ?_ (I1 B7 A6) ?_
 ·exact zq4
 intro i v ks hinv;refine zK ?_ ?_
 ·intro h19 k19;have hlt:i<s.Cells.length:=by omega
  obtain⟨c,hx⟩:=B2 hlt;have hkl:ks.length≤1048576:=by rw[hinv.2];unfold AA8;rw[A8,H0];omega
  refine R5 ?_;refine zq71 ?_;intro b7;refine R7 ?_;refine zq145 ?_;intro v26_1;refine R6 ?_;refine Q8 i v ks (i+1) (v26_1) (ks++[c.Key]) ?_ ?_ (D5 1 BM4 A6)
  ·exact⟨by omega,by rw[hinv.2];unfold AA8;rw[X3,hx,Y3];rfl⟩
  omega
 intro h19 k19;have hge:s.Cells.length≤i:=by omega
 have hks:ks=AA8 s.Cells:=by rw[hinv.2,S7 hge]
 refine R9 ?_;refine W1 [(1,_),(2,_),(28,_),(29,_)] _ (fun (q:Nat) (v1:Value) (k1:List Str)=>q≤held.length∧k1=AA8 s.Cells++O8 (hWs (held.take q))∧(hWs held).all p=(hWs (held.drop q)).all p) (fun q v1 k1=>[.arr v1 9 1 (k1.map fun k=>[AV.str k])]) (fun q v1 k1=>[(5,AV.is v1),(30,AV.int q)]) (fun q v1 k1=>held.length-q) (0) (v) (ks) ?_ (I1 B7 A6) ?_
 ·exact⟨E4 _,by rw[hks,List.take_zero];simp[hWs,O8],rfl⟩
 intro q v1 k1 hinv;refine zK ?_ ?_
 ·intro h31 k31;have hlt:q<held.length:=by omega
  obtain⟨h,hh0⟩:=B2 hlt;obtain⟨g1,g2,g3,g4,g5⟩:=AM0 hh hh0;have hinv1:=hinv;refine R5 ?_;refine A1 rfl (C2 rfl H1 O0 zA zA hh0 qz1) ?_;refine R2 ?_;intro b9;refine R10 ?_;refine zL [1] ?_;refine W1 [(1,_),(2,_),(9,_),(28,_),(29,_),(30,_),(31,_),(32,_),(33,_),(34,_),(35,_),(36,_)] _ (fun (r:Nat) (v2:Value) (k2:List Str)=>r≤h.Writes.length∧k2=k1++O8 (h.Writes.take r)∧h.Writes.all p=(h.Writes.drop r).all p) (fun r v2 k2=>[.arr v2 9 1 (k2.map fun k=>[AV.str k])]) (fun r v2 k2=>[(5,AV.is v2),(37,AV.int r)]) (fun r v2 k2=>h.Writes.length-r) (0) (v1) (k1) ?_ (I1 B7 A6) ?_
  ·exact⟨E4 _,by simp[O8],rfl⟩
  intro r v2 k2 hinv;refine zK ?_ ?_
  ·intro h38 k38;have hlt2:r<h.Writes.length:=by omega
   obtain⟨w,hw⟩:=B2 hlt2;obtain⟨c,hc0⟩:=Aw1 s.Cells (AK2 s.Cells w.Key);have hc1:Ar1 s.Cells w.Key=true→s.Cells[AK2 s.Cells w.Key]? =some c:=fun e=>by (obtain⟨y,hy,_⟩:=Av2.1 e;exact hc0 (G1.1 hy).1)
   have hfu:=Db4 hca hc1;have hk2l:k2.length≤3145728:=by rw[hinv.2.1,hinv1.2.1];have:=CD3 s.Cells.length q hs1 hh;rw[AO5]at this;unfold O8 at this⊢;simp only[I2,A8,H0]at this⊢;omega
   refine R5 ?_;refine A1 rfl (C2 rfl G5 M8 zA zA hw qz1) ?_;refine R2 ?_;intro b11;refine R9 ?_;refine zF rfl call220 (At6 s.Cells w.Key qz7) F3 ?_;refine R13 ?_;refine L5 rfl (fun hc=>AX5 rfl E7 K0 (A7 rfl hc) (A7 rfl hc) (by have:=(G1.1 (hc1 hc)).1;omega) (by rw[o5,a8,hc1 hc];rfl)) ?_;refine zC ?_ ?_
   ·intro h59;have hpw:p w=false:=by rw[hp];simp only[AD1];rw[hfu];simpa using h59
    have hro:room s.Cells (hWs held)=false:=by (unfold room;rw[show ((hWs held).all fun w=> !Ak9 s.Cells w.Key)=false from by rw[←hp,hinv1.2.2,J8 hh0,BD4,List.all_append,hinv.2.2,J8 hw,AA7,hpw];rfl];rfl)
    refine R5 ?_;exact D1 rfl (A5 rfl qz73)
   intro h59;have hpw:p w=true:=by rw[hp];simp only[n5];rw[hfu];simpa using h59
   refine R6 ?_;refine zq145 ?_;intro v64_2;refine R6 ?_;refine Q8 r v2 k2 (r+1) (v64_2) (k2++[w.Key]) ?_ ?_ (Le.trans (B4 [0,0] rfl) (D5 1 BM4 A6))
   ·exact⟨by omega,by rw[hinv.2.1];unfold O8;rw[X3,hw,Y3,o7];rfl,by rw[hinv.2.2,J8 hw,AA7,hpw];rfl⟩
   omega
  intro h38 k38;have hge2:h.Writes.length≤r:=by omega
  have hk2:k2=k1++O8 h.Writes:=by rw[hinv.2.1,S7 hge2]
  have hal:h.Writes.all p=true:=by rw[hinv.2.2,r9 hge2];rfl
  refine R5 ?_;refine Q8 q v1 k1 (q+1) (v2) (k2) ?_ ?_ (Le.trans (B4 [1,0] rfl) (D5 1 B7 A6))
  ·exact⟨by omega,by rw[hk2,hinv1.2.1,Cs0 hh0];simp[O8],by rw[hinv1.2.2,J8 hh0,BD4,List.all_append,hal];rfl⟩
  omega
 intro h31 k31;have hge:held.length≤q:=by omega
 have hk9:k1=AA8 s.Cells++O8 (hWs held):=by rw[hinv.2.1,S7 hge]
 have hal9:(hWs held).all p=true:=by rw[hinv.2.2,r9 hge];rfl
 have hln:=CD3 s.Cells.length held.length hs1 hh;rw[AO5,AO5,←hk9]at hln;have hre:room s.Cells (hWs held)=decide ((cmpL (AX7 k1)).length≤24):=by (unfold room As1 AI4;rw[←hp,hal9,←hk9];rfl)
 refine R4 ?_;refine zI [0] rfl call149 (BS2 _ k1 qz7) (A2 (A0 rfl) A9) rfl ?_;intro x68 ok68;refine R8 ?_;refine Am6 rfl rfl (Q3 rfl rfl rfl) ?_ ?_
 ·intro gh74;refine zI [0] rfl call274 (Bc2 _ (AX7 k1) (by rw[BI8];omega)) (A2 (A7 rfl gh74) A9) rfl ?_;intro x74 ok74;refine R6 ?_;exact D1 rfl (A5 rfl qz73)
 intro gh74;refine Am6 rfl rfl (Q3 rfl rfl rfl) (fun hq=>by rw[gh74]at hq;cases hq) (fun _=> ?_);refine Am6 rfl rfl (Q3 rfl rfl rfl) (fun hq=>by rw[gh74]at hq;cases hq) (fun _=> ?_);refine A1 rfl (Cl6 rfl zA (Bv5 (x:=AV.bool false) gh74)) ?_;refine R3 ?_;exact D1 rfl (A5 rfl qz73)
theorem Cs3 {p:Prop}(h:p:=by
  obtain⟨ka,k1⟩:=hk;refine B0 tw10x0 rfl tw10x1 rfl ?_;refine R3 ?_;intro b2;refine R6 ?_;refine zF rfl Tryz.call298 (DR3 _ _ X9 X9 AI6 AI6) (A2 (A0 rfl) (A2 (A0 rfl) A9)) ?_;refine R3 ?_;exact D1 rfl (A5 rfl W5)):p:=h
namespace tw10n0
def tw10x0 :=@Tryz.func297
def tw10x1 :=@Tryz.ntmps297
end tw10n0
open tw10n0 in
theorem Cg2 (h k:E0)(h1:h.Writes.length≤4611686018427387903)(ha:adj X6 h.Writes=true)(hk:adj X6 k.Writes=true∧k.Writes.length≤4611686018427387903):D6 297 [AV.agg k.cs,AV.eptr h.cs] (AV.bool (Aq4 h k)):=Cs3
theorem Cg3 (h:E0)(s:E1)(w:B1)(ho:AN8 s.Cells)(hs:D2 B8.size s.Cells≤1048576):D6 299 [AV.agg w.cs,AV.eptr h.cs,AV.eptr s.cs] (AV.bool (decide (h.Time≤O5 s.Cells w.Key))):=by
  refine B0 Tryz.func299 rfl Tryz.ntmps299 rfl ?_;refine R3 ?_;intro b3;refine R10 ?_;refine B3 rfl rfl (zG rfl Tryz.call245 (BL1 _ _ (by first|assumption|exact AJ6 AI6) X9) (A2 (A0 rfl) (A2 (A0 rfl) A9))) ?_;exact zq114
theorem Cs4 (s:E1)(hg:o1 s.Cells=true)(hs:s.size≤1048576):D6 244 [AV.agg s.cs] (AV.bool (AG1 s)):=by
 obtain⟨hs1,hs2,hs3,hs4,hs5⟩:=AB6 hs;have hco:=AJ6 hg;refine B0 Tryz.func244 rfl Tryz.ntmps244 rfl ?_;refine R3 ?_;intro b1;refine R11 ?_;refine E8 [(1,_),(6,_),(7,_)] _ (fun (i:Nat)=>i≤s.Held.length∧∀j,j<i→Aa3 s j=true) (fun i=>[]) (fun i=>[(8,AV.int i)]) (fun i=>s.Held.length-i) (0) ?_ (G2 A6) ?_
 ·exact⟨E4 _,fun j hj=>by omega⟩
 intro i hinv;refine zK ?_ ?_
 ·intro h9 k9;have hlt:i<s.Held.length:=by omega
  obtain⟨h,hx⟩:=B2 hlt;obtain⟨y,hy⟩:=B2 (show i-1<s.Held.length by omega);obtain⟨g1,g2,g3,g4,g5⟩:=AM0 hs2 hx;refine R6 ?_;refine A1 rfl (C2 rfl H1 O0 zA zA hx qz1) ?_;refine R2 ?_;intro b4;refine R7 ?_;refine B3 rfl rfl (zG rfl Tryz.call295 (Cs2 _) G6) ?_;refine B3 rfl rfl (zG rfl Tryz.call167 (Az3 _ X9) (A2 (A0 rfl) A9)) ?_;refine R18 ?_;refine M1 rfl (Y9 rfl rfl rfl) (fun hc=>C2 rfl H1 O0 (A7 rfl hc) (A7 rfl hc) hy qz6) ?_;refine zC ?_ ?_
  ·intro h39;have hfin:AG1 s=false:=by (unfold AG1;rw[AP8 hlt (by rw[BJ5 hx hy,h39];rfl)];rfl)
   refine R5 ?_;exact D1 rfl (A5 rfl qz97)
  intro h39;have hgr:T8 (AW5 h)=true:=by (simp only[v9,AD1]at h39;exact h39.1.1)
  have hwa:=BS4 hgr;have hwl:h.Writes.length≤4611686018427387903:=by omega
  have hpre:∀g∈s.Held.take i,adj X6 g.Writes=true∧g.Writes.length≤4611686018427387903:=fun g hm=>by (obtain⟨j,hj⟩:=i5 hm;have hjl:=(G1.1 hj).1;rw[H0]at hjl;rw[AD6 qz7]at hj;have k1:=AM0 hs2 hj;exact⟨BS4 (Bz1 hj (hinv.2 j qz7)).1,by omega⟩)
  refine R7 ?_;refine A1 rfl (AG5 rfl H1 O0 zA zA qz1 qz1) ?_;refine A1 rfl (Ag8 rfl rfl G6) ?_;refine A1 rfl (n2 rfl Tryz.call296 rfl (Aw5 (s.Held.take i) (fun g=>adj X6 g.Writes=true∧g.Writes.length≤4611686018427387903) (fun g=>Aq4 h g) hpre) (T9 _) (N7 (evb zA) (N7 (AC7 (AV7 0 zA rfl) (AL4 Tryz.call297 (fun g hg=>Cg2 _ g X9 AI6 hg))) o8))) ?_;refine zC ?_ ?_
  ·intro h45;have hfin:AG1 s=false:=by (unfold AG1;rw[AP8 hlt (by rw[BJ5 hx hy,h45];simp)];rfl)
   refine R5 ?_;exact D1 rfl (A5 rfl qz97)
  intro h45;refine R5 ?_;refine A1 rfl (Ag8 rfl rfl F3) ?_;refine A1 rfl (n2 rfl Tryz.call288 rfl (Ab9 _ _ _ Au5) (T9 _) (N7 (evb (A0 rfl)) (N7 (AC7 (Bf6 0 1 (A0 rfl) rfl rfl) (AL4 Tryz.call299 (fun w (_:True)=>Cg3 _ _ w AI6 X9))) o8))) ?_;refine zC ?_ ?_
  ·intro h49;have hfin:AG1 s=false:=by (unfold AG1;rw[AP8 hlt (by rw[BJ5 hx hy,h49];simp)];rfl)
   refine R5 ?_;exact D1 rfl (A5 rfl qz97)
  intro h49;refine R5 ?_;refine F1 i (i+1) ?_ ?_ (T4 1 A6)
  ·exact⟨by omega,fun j hj=>if hji:j<i then hinv.2 j hji else (by have e:j=i:=qz7;subst e;rw[BJ5 hx hy,h39,h45,h49];rfl)⟩
  omega
 intro h9 k9;have hall:BE7 s.Held.length (Aa3 s)=true:=An3.2 fun j hj=>hinv.2 j qz7;refine R6 ?_;refine zF rfl Tryz.call300 (Cb6 _ _ AI6 X9 X9) (A2 (A0 rfl) (A2 (A0 rfl) A9)) ?_;refine R3 ?_;exact D1 rfl (A5 rfl qz97)
theorem CT7 (h:E0)(n:Int):D6 152 [AV.agg h.cs,AV.int n] (AV.int (hCmp n h)):=by
  refine B0 Tryz.func152 rfl Tryz.ntmps152 rfl ?_;refine R3 ?_;intro b2;refine R7 ?_;refine zF rfl Tryz.call153 (By5 _ _) F3 ?_;exact zq158
theorem CT8 (h:H2)(n:Int):D6 209 [AV.agg h.cs,AV.int n] (AV.int (tCmp n h)):=by
  refine B0 Tryz.func209 rfl Tryz.ntmps209 rfl ?_;refine R3 ?_;intro b2;refine R7 ?_;refine zF rfl Tryz.call153 (By5 _ _) F3 ?_;exact zq158
theorem Cs5 (f:Int)(c t:List (List AV))(l:List E0)(n:Int)(hs:l.length≤1048576):D6 76 [AV.agg [AV.int f,AV.list 2 c,AV.list 5 (l.map E0.cs),AV.list 3 t],AV.int n] (AV.tup [AV.int (Ak0 l n),AV.bool (BB8 l n)]):=by
  refine B0 Tryz.func76 rfl Tryz.ntmps76 rfl ?_;refine R3 ?_;intro b2;refine R8 ?_;refine zF rfl Tryz.call151 (Bb4 _ _ _ Au5 _ qz7) (A2 (A0 rfl) (A2 (A0 rfl) (A2 (Ba4 Tryz.call152 (fun h n (_:True)=>CT7 h n)) A9))) ?_;refine R6 ?_;exact zq137
theorem An8 (f:Int)(c h:List (List AV))(l:List H2)(n:Int)(hs:l.length≤1048576):D6 146 [AV.agg [AV.int f,AV.list 2 c,AV.list 5 h,AV.list 3 (l.map H2.cs)],AV.int n] (AV.tup [AV.int (BB9 l n),AV.bool (CX2 l n)]):=by
  refine B0 Tryz.func146 rfl Tryz.ntmps146 rfl ?_;refine R3 ?_;intro b2;refine R8 ?_;refine zF rfl Tryz.call208 (Bb5 _ _ _ Au5 _ qz7) (A2 (A0 rfl) (A2 (A0 rfl) (A2 (Ba4 Tryz.call209 (fun h n (_:True)=>CT8 h n)) A9))) ?_;refine R6 ?_;exact zq137
theorem At7 (s:E1)(n:Int)(hs:s.Held.length≤1048576):D6 76 [AV.agg s.cs,AV.int n] (AV.tup [AV.int (Ak0 s.Held n),AV.bool (BB8 s.Held n)]):=Cs5 _ _ _ s.Held n hs
theorem Bl1 (s:E1)(n:Int)(hs:s.Told.length≤1048576):D6 146 [AV.agg s.cs,AV.int n] (AV.tup [AV.int (BB9 s.Told n),AV.bool (CX2 s.Told n)]):=An8 _ _ _ s.Told n hs
theorem CT9 (s:E1)(hs:s.size≤1048576):D6 181 [AV.agg s.cs] (AV.bool (V1 s)):=by
 obtain⟨hs1,hs2,hs3,hs4,hs5⟩:=AB6 hs;refine B0 Tryz.func181 rfl Tryz.ntmps181 rfl ?_;refine R3 ?_;intro b1;refine R7 ?_;refine zF rfl Tryz.call60 (Ar6 _) G6 ?_;refine R4 ?_;refine S0 rfl (fun hc=>zG rfl Tryz.call243 (Bc0 _ X9) (A2 (A7 rfl hc) A9)) ?_;refine R4 ?_;refine S0 rfl (fun hc=>zG rfl Tryz.call244 (Cs4 s (by have h9:=hc;simp at h9;exact h9.2) hs) zS) ?_;refine zC ?_ ?_
 ·intro h30;have hfin:V1 s=false:=by (unfold V1;simp only[AC0,n5,H6,A8]at h30;rcases h30 with ((h|h)|h)|h;(rw[h];rfl);(rw[h];simp);(rw[h];simp);(rw[AC1 (show ¬s.Told.length≤60 by omega)];simp))
  exact zq60
 intro h30;simp only[v9,AD1,AB8,A8]at h30;obtain⟨⟨⟨q1,q2⟩,q3⟩,q4⟩:=h30;have hco:=AJ6 q2;have hsrt:=Cs1 q3;have hgs:V1 s=((s.Cells.all fun c=>decide (O5 s.Cells c.Key≤s.Floor))&&BE7 s.Told.length (Ai6 s)):=by (unfold V1;rw[q1,q2,q3,W6 (show s.Told.length≤60 by omega)];simp)
 refine R10 ?_;refine E8 [(1,_),(32,_),(33,_)] _ (fun (i:Nat)=>i≤s.Cells.length∧(s.Cells.all fun c=>decide (O5 s.Cells c.Key≤s.Floor))=((s.Cells.drop i).all fun c=>decide (O5 s.Cells c.Key≤s.Floor))) (fun i=>[]) (fun i=>[(34,AV.int i)]) (fun i=>s.Cells.length-i) (0) ?_ (G2 A6) ?_
 ·exact zq4
 intro i hinv;refine zK ?_ ?_
 ·intro h35 k35;have hlt:i<s.Cells.length:=by omega
  obtain⟨c,hx⟩:=B2 hlt;refine R5 ?_;refine zq71 ?_;intro b4;refine R8 ?_;refine B3 rfl rfl (zG rfl Tryz.call245 (BL1 _ _ (by first|assumption|exact AJ6 AI6) X9) (A2 (A0 rfl) (A2 (A0 rfl) A9))) ?_;refine zK ?_ ?_
  ·intro h45 k45;have hfin:V1 s=false:=by (rw[hgs,hinv.2,J8 hx,AA7,AC1 (show ¬O5 s.Cells c.Key≤s.Floor by omega)];rfl)
   exact zq60
  intro h45 k45;refine R5 ?_;refine F1 i (i+1) ?_ ?_ (T4 1 A6)
  ·exact⟨by omega,by rw[hinv.2,J8 hx,AA7,W6 (show O5 s.Cells c.Key≤s.Floor by omega)];rfl⟩
  omega
 intro h35 k35;have hge:s.Cells.length≤i:=by omega
 have hgs2:V1 s=BE7 s.Told.length (Ai6 s):=by (rw[hgs,hinv.2,r9 hge];rfl)
 refine R10 ?_;refine E8 [(1,_),(48,_),(49,_)] _ (fun (q:Nat)=>q≤s.Told.length∧∀j,j<q→Ai6 s j=true) (fun q=>[]) (fun q=>[(50,AV.int q)]) (fun q=>s.Told.length-q) (0) ?_ (G2 A6) ?_
 ·exact⟨E4 _,fun j hj=>by omega⟩
 intro q hinv;refine zK ?_ ?_
 ·intro h51 k51;have hlt:q<s.Told.length:=by omega
  obtain⟨t,hx⟩:=B2 hlt;obtain⟨y,hy⟩:=B2 (show q-1<s.Told.length by omega);refine R6 ?_;refine A1 rfl (C2 rfl K7 Q2 zA zA hx qz1) ?_;refine R2 ?_;intro b6;refine R12 ?_;refine L5 rfl (fun hc=>zG rfl Tryz.call29 (Z0 _ _ _) zS) ?_;refine R18 ?_;refine B3 rfl rfl (zG rfl Tryz.call198 (BH0 _) G6) ?_;refine R15 ?_;refine M1 rfl (Y9 rfl rfl rfl) (fun hc=>C2 rfl K7 Q2 (A7 rfl hc) (A7 rfl hc) hy qz6) ?_;refine zC ?_ ?_
  ·intro h97;have hfin:V1 s=false:=by (rw[hgs2];exact AP8 hlt (by rw[BW2 hx hy,h97];rfl))
   exact zq60
  intro h97;refine R6 ?_;refine zF rfl Tryz.call76 (At7 _ _ X9) (A2 (A0 rfl) (A2 (A0 rfl) A9)) ?_;refine zC ?_ ?_
  ·intro h105;have hfin:V1 s=false:=by (rw[hgs2];exact AP8 hlt (by rw[BW2 hx hy,←Ap6 hsrt,h105];simp))
   exact zq60
  intro h105;refine R5 ?_;refine F1 q (q+1) ?_ ?_ (T4 1 A6)
  ·exact⟨by omega,fun j hj=>if hji:j<q then hinv.2 j hji else (by have e:j=q:=qz7;subst e;rw[BW2 hx hy,h97,←Ap6 hsrt,h105];rfl)⟩
  omega
 intro h51 k51;have hge:s.Told.length≤q:=by omega
 have hfin:V1 s=true:=by (rw[hgs2];exact An3.2 fun j hj=>hinv.2 j qz7)
 refine R6 ?_;exact D1 rfl (A5 rfl BC3)
end Go.PQ
namespace Go.PQ
open Go.Proofs
open Go Go.AV Go.M
attribute [local irreducible] OpW OpA OpS AWP J6 L6 K3 OpE K4 I5 L0 Le Ev G4
def N5.ow (c:N5)(x:Value×Value):List Own:=[.arr x.1 9 1 (c.Reads.map (fun x=>[AV.str x])),.arr x.2 248 3 (c.Writes.map B1.cs)]
theorem N5.lc (c:N5)(x:Value×Value):AJ1 (N5.ow c x) (N5.ocs c x) c.cs:=(D7 H9 (D7 H9 (D7 H9 (D7 H9 (D7 (K2 (C3 (i:=0) rfl) G3) (D7 (K2 (C3 (i:=1) rfl) G3) (D7 H9 Z6)))))))
end Go.PQ
namespace Go.AV
section
variable {T X:Type} {cs:T→List AV} {ocs:T→X→List AV} {ow:T→X→List Own}
theorem Db5 {l:List T}{xs:List X}{i:Nat}{p:T}{x:X}(hi:i≤l.length)(h:xs.length=l.length):(L4 ocs l xs).take i++ocs p x::(L4 ocs l xs).drop i=L4 ocs (l.take i++p::l.drop i) (xs.take i++x::xs.drop i):=by
  unfold L4;rw[List.zipWith_append (by rw[H0,H0];omega),List.zipWith_cons_cons,List.take_zipWith,List.drop_zipWith]
theorem nin_ins {l:List T}{xs:List X}{i:Nat}{p:T}{x:X}(hi:i≤l.length)(h:xs.length=l.length):(ow p x++nin ow l xs).Perm (nin ow (l.take i++p::l.drop i) (xs.take i++x::xs.drop i)):=by
  have e:nin ow l xs=nin ow (l.take i) (xs.take i)++nin ow (l.drop i) (xs.drop i):=by
    unfold nin;rw[←BA4,←List.zipWith_append (by rw[H0,H0];omega),Ak4,Ak4]
  have e2:nin ow (l.take i++p::l.drop i) (xs.take i++x::xs.drop i)=nin ow (l.take i) (xs.take i)++(ow p x++nin ow (l.drop i) (xs.drop i)):=by
    unfold nin;rw[List.zipWith_append (by rw[H0,H0];omega),List.zipWith_cons_cons,BA4,Ak1]
  rw[e,e2,←o7,←o7];exact List.Perm.append_right _ AQ0
theorem Cs6 {X:Type}{xs:List X}{i:Nat}{x:X}(hi:i≤xs.length):(xs.take i++x::xs.drop i).length=xs.length+1:=by
  rw[I2,J7,H0,AB9];omega
end
end Go.AV
namespace Go.PQ
open Go.Proofs Go.Proofs.Tryz
open Go Go.AV Go.M
attribute [local irreducible] OpW OpA OpS AWP J6 L6 K3 OpE K4 I5 L0 Le Ev G4 L9
def B8.ow (c:B8)(x:Value):List Own:=[.arr x 209 3 (c.Vers.map U0.cs)]
theorem B8.lcM {own:List Own}(c:B8)(x:Value)(h:∀o∈B8.ow c x,o∈own):AJ1 own (B8.ocs c x) c.cs:=D7 H9 (D7 (K2 (h _ (C3 (i:=0) rfl)) G3) Z6)
theorem DR4 {l:List B8}{xs:List Value}{p:B8}{x:Value}{i:Nat}(hp:l[i]? =some p)(h:xs.length=i):L4 B8.ocs (l.take i) xs++B8.ocs p x::(l.drop (i+1)).map B8.cs=L4 B8.ocs (l.take (i+1)) (xs++[x])++(l.drop (i+1)).map B8.cs:=by
  rw[←AP5 hp h,o7];rfl
theorem CU0 (v vv:Value)(l:List (List AV))(x:List AV)(hx2:x.length=2)(hl2:∀r∈l,r.length=2)(i:Nat)(hi:i≤l.length)(hl:l.length≤4194304):M0 375 [AV.is v,AV.int i,AV.is vv] [.arr v 214 2 (l.map id),.arr vv 214 2 [id x]] (fun _:Value=>True) (fun v=>[.arr v 214 2 ((l.take i++x::l.drop i).map id)]) (fun v=>AV.is v):=by
 have hn:(l.map id).length=l.length:=A8 _;have h1:([id x]:List (List AV)).length=1:=rfl;have e28:((l.map id).length:Int)+(([id x]:List (List AV)).length:Int)=((l.length+1:Nat):Int):=by rw[hn,h1];rfl
 have e49:(i:Int)+(([id x]:List (List AV)).length:Int)=((i+1:Nat):Int):=by rw[h1];rfl
 have e39:((l.length+1:Nat):Int)-(i:Int)=((l.length+1-i:Nat):Int):=by omega
 refine C8 func375 rfl ntmps375 rfl ?_;refine Au8 0 rfl ?_ ?_
 ·intro hv hes;subst hv;have hl0:l=[]:=by cases l with|nil=>rfl|cons y l=>(simp at hes)
  subst hl0;have hi0:i=0:=by simpa using hi
  subst hi0;refine Au8 1 rfl (fun _ h=>by cases h) ?_;intro gv cv hvv _ _;subst hvv;refine zq10 ?_;refine R5 ?_;refine A1 rfl (BN0 0 rfl E7 K0 zA rfl zA qz1 qz1) ?_;refine R4 ?_;refine A1 rfl (Ay0 rfl E7 zA) ?_;refine zC ?_ ?_
  ·intro h16;have k16:=J9 h16;(try simp only[A8]at k16);rw[h1]at k16;omega
  intro h16;have k16:=J4 h16;(try simp only[A8]at k16);refine zC ?_ ?_
  ·intro h22;have k22:=J9 h22;(try simp only[A8]at k22);refine R4 ?_;refine BN3 (by':=40) 0 rfl rfl rfl rfl E7 type214 rfl rfl rfl rfl rfl rfl zA (Ah0 1 rfl zA) X1 rfl (by simp only[A8,J7,T5];omega) ?_;intro v25;refine R3 ?_;exact I9 [0] v25 (trivial) rfl Ck6 (O2 rfl (A5 rfl BU7))
  intro h22;have k22:=J4 h22;(try simp only[A8]at k22);exact absurd rfl k22
 intro g cap hv hlc hcm;subst hv;refine Au8 1 rfl (fun _ h=>by cases h) ?_;intro gv cv hvv _ _;subst hvv;refine zq10 ?_;refine R5 ?_;refine A1 rfl (AZ2 rfl E7 K0 zA zA qz1 qz1) ?_;refine R4 ?_;refine A1 rfl (Ay0 rfl E7 zA) ?_;refine zC ?_ ?_
 ·intro h16;have k16:=J9 h16;(try simp only[A8]at k16);rw[h1]at k16;omega
 intro h16;have k16:=J4 h16;(try simp only[A8]at k16);refine R4 ?_;refine A1 rfl (Ay0 rfl E7 zA) ?_;refine zC ?_ ?_
 ·intro h22;have k22:=J9 h22;(try simp only[A8]at k22);refine R4 ?_;refine BN3 (by':=40) 0 rfl rfl rfl rfl E7 type214 rfl rfl rfl rfl rfl rfl zA (Ah0 1 rfl zA) X1 rfl (by simp only[A8,J7,T5];omega) ?_;intro v25;refine R3 ?_;exact I9 [0] v25 (trivial) rfl Ck6 (O2 rfl (A5 rfl BU7))
 intro h22;have k22:=J4 h22;(try simp only[A8]at k22);refine R7 ?_;rw[e28];refine R1 ?_;refine A1 rfl (w_vcap rfl E7 zA) ?_;refine zK ?_ ?_
 ·intro h31 k31;refine R4 ?_;refine A1 rfl (CH5 rfl E7 K0 zA zA qz7 (by rw[hn]at hlc;omega)) ?_;refine R3 ?_;rw[e28];refine R2 ?_;rw[e39,o5];refine CH6 (by':=40) (j:=i) (m:=l.length+1-i) 0 rfl rfl rfl rfl E7 W8 type214 rfl rfl rfl rfl rfl rfl zA zA rfl (by rw[hn];exact hi) qz7 qz7 qz7 qz7 ?_;intro g2 cap2 hcap2;refine R6 ?_;refine A1 rfl (AZ2 rfl E7 K0 zA zA qz1 qz1) ?_;refine R1 ?_;rw[o5];refine BD0 (k:=i) 0 rfl rfl rfl rfl E7 type214 rfl zA (Ah0 2 rfl zA) rfl (by rw[h1];omega) (by rw[h1];omega) hcap2 X1 ?_;refine R2 ?_;refine J3 8 E3 E3 rfl ?_;refine R4 ?_;rw[e49];refine B3 rfl rfl (AZ2 rfl E7 K0 zA zA qz1 qz1) ?_;refine R2 ?_;refine B3 rfl rfl (AZ2 rfl E7 K0 zA zA qz1 qz1) ?_;refine R1 ?_;simp only[o5];refine BD0 (k:=i+1) 0 rfl rfl rfl rfl E7 type214 rfl zA (CR9 1 rfl zA) rfl (by rw[AB9,hn];omega) (by rw[AB9,hn];omega) hcap2 qz215 ?_;refine R7 ?_;exact I9 [0] (slv g2 (i+(l.length+1-i)) cap2) (trivial) rfl Ck6 (O2 rfl (A5 rfl BU7))
 intro h31 k31;refine R7 ?_;rw[e28];refine A1 rfl (CH5 rfl E7 K0 zA zA qz1 qz1) ?_;rw[o5];refine R10 ?_;rw[e49];refine A1 rfl (AZ2 rfl E7 K0 zA zA qz1 qz1) ?_;rw[o5];refine A1 rfl (By1 (tb:=4) 1 0 rfl func396 E3 E3 E3 E3 E7 K0 zA zA rfl rfl rfl qz7 rfl) ?_;refine zC ?_ ?_
 ·intro h68;refine R1 ?_;refine J3 8 E3 E3 rfl ?_;refine R4 ?_;rw[e49];refine B3 rfl rfl (AZ2 rfl E7 K0 zA zA qz1 qz1) ?_;refine R2 ?_;refine B3 rfl rfl (AZ2 rfl E7 K0 zA zA qz1 qz1) ?_;refine R1 ?_;simp only[o5];refine Co6 (k:=i) (len:=(l.map id).length) 0 rfl rfl rfl rfl E7 type214 rfl (by rw[hn];exact A0 rfl) (by rw[hn];exact A0 rfl) rfl qz7 qz7 ?_;intro j77;refine R5 ?_;refine A1 rfl (AZ2 rfl E7 K0 zA zA qz1 qz1) ?_;refine R1 ?_;rw[o5];refine BD0 (k:=i) 0 rfl rfl rfl rfl E7 type214 rfl zA (Ah0 1 rfl zA) rfl (by rw[h1,hn];omega) (by rw[h1];omega) qz7 X1 ?_;refine R7 ?_;exact I9 [0] (slv g ((l.map id).length+1) cap) (trivial) rfl Ck6 (O2 rfl (A5 rfl BU7))
 intro h68
 cases h68
theorem Bl2 (l:List B8)(hs:D2 B8.size l≤4194304):M0 339 [AV.list 2 (l.map B8.cs)] [] (fun x:Value×List Value=>x.2.length=l.length) (fun x=> .arr x.1 214 2 (L4 B8.ocs l x.2)::nin B8.ow l x.2) (fun x=>AV.is x.1):=by
 have hl:l.length≤4194304:=L7 M7 hs;refine C8 func339 rfl ntmps339 rfl ?_;refine zq10 ?_;refine R4 ?_;refine zI [] rfl call373 (CT1 _ X9) (A2 (A0 rfl) A9) rfl ?_;intro x6 ok6;refine R10 ?_;refine K5 [(2,_),(3,_),(8,_)] [] (fun (i:Nat) (xs:List Value)=>i≤l.length∧xs.length=i) (fun i xs=>[.arr x6 214 2 (L4 B8.ocs (l.take i) xs++(l.drop i).map B8.cs)]++(nin B8.ow (l.take i) xs)) (fun i xs=>[(9,AV.int i)]) (fun i xs=>l.length-i) (0) ([]) ?_ (I1 B7 A6) ?_
 ·exact zq4
 intro i xs hinv;refine H3 (T2 _) ?_;refine zK ?_ ?_
 ·intro h10 k10;have hlt:i<l.length:=by omega
  obtain⟨x,hx⟩:=B2 hlt;have hsx:=AW0 (L7 (W4 hx) hs);rw[J8 hx,m4];refine R13 ?_;refine A1 rfl (I4 0 rfl E7 K0 zA rfl zA qz7 (by rw[I2,J7,i0 BU9,H0];omega)) ?_;refine A1 rfl (O1 0 rfl X8 rfl z6 zA rfl rfl (AC5 (show (L4 B8.ocs (l.take i) xs).length=i by rw[i0 BU9,H0];omega))) ?_;refine A1 rfl (Q6 0 rfl zA rfl isAgg212 (AC5 (show (L4 B8.ocs (l.take i) xs).length=i by rw[i0 BU9,H0];omega)) rfl) ?_;refine zI [] rfl call374 (Cf6 _ X9) (A2 (A0 rfl) A9) rfl ?_;intro x19 ok19;refine A1 rfl (I4 1 rfl E7 K0 zA rfl zA qz7 (by rw[I2,J7,i0 BU9,H0];omega)) ?_;refine A1 rfl (O1 1 rfl X8 rfl z6 zA rfl rfl (AC5 (show (L4 B8.ocs (l.take i) xs).length=i by rw[i0 BU9,H0];omega))) ?_;refine O7 0 rfl fun one_x19=> ?_;refine Ag9 1 rfl rfl rfl zA zA (F6 one_x19) rfl z6 (show (L4 B8.ocs (l.take i) xs).length=i by rw[i0 BU9,H0];omega) rfl ?_;refine R1 ?_;refine zL [1,0] ?_;refine AWP.le (U1 1 (t:=nin B8.ow (l.take (i+1)) (xs++[x19])) (AV8 (ow:=B8.ow) (x:=x19) hx hinv.2)) ?_;refine R4 ?_;refine H5 i xs (i+1) (xs++[x19]) ?_ ?_ (I1 (Eq.trans (by exact F2 (fun z=>Own.arr _ _ _ z::_) (DR4 hx hinv.2)) (T2 _).symm) A6)
  ·exact⟨by omega,by rw[I2,hinv.2];rfl⟩
  omega
 intro h10 k10;have hge:i=l.length:=by omega
 have hxs:=hinv.2.trans hge;rw[show l.take i=l from S7 qz7,show l.drop i=[]from r9 qz7,List.map_nil,T2];refine R7 ?_;exact H8 [0] 0 (nin B8.ow l xs) (x6,xs) (hxs) rfl B7 (O2 rfl (A5 rfl W5))
theorem Cb7 (l:List B8)(hs:D2 B8.size l≤4194304):M0 326 [AV.list 2 (l.map B8.cs)] [] (fun x:Value×List Value=>x.2.length=l.length) (fun x=> .arr x.1 214 2 (L4 B8.ocs l x.2)::nin B8.ow l x.2) (fun x=>AV.is x.1):=by
 have hl:l.length≤4194304:=L7 M7 hs;refine C8 func326 rfl ntmps326 rfl ?_;refine zq149 ?_;refine n1 214 2 rfl rfl rfl rfl L2 ?_;intro v3;refine R9 ?_;refine W1 [(2,_),(6,_),(7,_)] [] (fun (i:Nat) (v:Value) (xs:List Value)=>i≤l.length∧xs.length=i) (fun i v xs=>[.arr v 214 2 (L4 B8.ocs (l.take i) xs)]++(nin B8.ow (l.take i) xs)) (fun i v xs=>[(3,AV.is v),(8,AV.int i)]) (fun i v xs=>l.length-i) (0) (v3) ([]) ?_ (I1 B7 A6) ?_
 ·exact zq4
 intro i v xs hinv;refine H3 (T2 _) ?_;refine zK ?_ ?_
 ·intro h9 k9;have hlt:i<l.length:=by omega
  obtain⟨x,hx⟩:=B2 hlt;have hsx:=AW0 (L7 (W4 hx) hs);refine R5 ?_;refine zq71 ?_;intro b5;refine R2 ?_;refine P1 _ [(0,false),(1,false),(2,false),(4,false),(5,false),(3,true),(6,true),(7,false),(8,false),(9,true)] E3 E3 rfl (U8 1) ?_;refine R5 ?_;refine U2 rfl rfl rfl (AC6 2<|AC3 rfl X7 z5) (fun a _=>qz3) ?_;intro v15 _;refine U2 rfl rfl rfl (J2 2 (fun _=>rfl) (N3 (by':=32) 2 rfl X7 type209 rfl rfl rfl rfl rfl rfl zA zA rfl qz1)) (fun a _=>qz3) ?_;intro v18_1 hone_v18_1;have one_v18_1:=hone_v18_1.2;refine N0 rfl rfl rfl (fun ext=>Q7 (places:=#[(0,1),(1,1)]) rfl X8 zeroValue214 (fun w=>by kernel_rfl) rfl (B6 zA (j4 _) (B6 zA (F6 one_v18_1) N6)) rfl) ?_;refine R1 ?_;refine U2 rfl rfl rfl (N3 (by':=40) 1 rfl E7 type214 rfl rfl rfl rfl rfl rfl zA zA rfl (by rw[i0 BU9,X4,H0];omega)) (fun a _=>qz3) ?_;intro v21_2 _;refine R3 ?_;refine zL [0,0,0] ?_;refine AWP.le (U1 2 (t:=nin B8.ow (l.take (i+1)) (xs++[v18_1])) (AV8 (ow:=B8.ow) (x:=v18_1) hx hinv.2)) ?_;refine R4 ?_;refine Q8 i v xs (i+1) (v21_2) (xs++[v18_1]) ?_ ?_ (D5 1 (Eq.trans (by exact F2 (fun z=>Own.arr _ _ _ z::_) (AP5 hx hinv.2)) (T2 _).symm) A6)
  ·exact⟨by omega,by rw[I2,hinv.2];rfl⟩
  omega
 intro h9 k9;have hge:i=l.length:=by omega
 have hxs:=hinv.2.trans hge;rw[show l.take i=l from S7 qz7];refine R7 ?_;exact H8 [0] 0 (nin B8.ow l xs) (v,xs) (hxs) rfl B7 (O2 rfl (A5 rfl W5))
theorem CJ5 (v vv:Value)(l:List (List AV))(x:List AV)(hx2:x.length=2)(hl2:∀r∈l,r.length=2)(i:Nat)(hi:i≤l.length)(hl:l.length≤4194304):M0 375 [AV.is v,AV.int i,AV.is vv] [.arr v 214 2 l,.arr vv 214 2 [x]] (fun _:Value=>True) (fun v=>[.arr v 214 2 (l.take i++x::l.drop i)]) (fun v=>AV.is v):=by
  have:=CU0 v vv l x hx2 hl2 i hi hl;simpa only[List.map_id,id_eq]using this
theorem Db6 {l:List B8}{xs:List Value}:∀r∈L4 B8.ocs l xs,r.length=2:=fun r hr=>by
  unfold L4 at hr;obtain⟨i,hi⟩:=i5 hr;rw[List.getElem?_zipWith]at hi;split at hi
  ·injection hi with hi;subst hi;rfl
  ·cases hi
theorem Az4 {α:Type}{f:α→Nat}{l:List α}(i:Nat):D2 f (l.take i)≤D2 f l:=by
  have:=An2 (f:=f) (l:=l.take i) (r:=l.drop i);rw[Ak4]at this;omega
theorem AV2 {α:Type}{f:α→Nat}{l:List α}{i:Nat}{x:α}(h:l[i]? =some x):D2 f (l.take (i+1))=D2 f (l.take i)+(1+f x):=by
  rw[X3,h,An2];show _+D2 f [x]=_
  rw[i4];rfl
def Bd8 (A:List (List AV))(k:Str)(vs:List (List AV))(B:List (List AV))(D:List Own)(o2:List B8)(f:Value→List Value):Prop:=
  ∀y:Value,(f y).length=o2.length∧A++[AV.str k,AV.is y]::B=L4 B8.ocs o2 (f y)∧(Own.arr y 209 3 vs::D).Perm (nin B8.ow o2 (f y))
theorem CJ6 {o:List B8}{xs:List Value}{p:Nat}{c:B8}{y0:Value}(hc:o[p]? =some c)(hy:xs[p]? =some y0)(hl:xs.length=o.length)(nv:U0):
    Bd8 (L4 B8.ocs (o.take p) (xs.take p)) c.Key (c.Vers.map U0.cs++[U0.cs nv]) (L4 B8.ocs (o.drop (p+1)) (xs.drop (p+1))) (nin B8.ow (o.eraseIdx p) (xs.eraseIdx p)) (o.set p ⟨c.Key,c.Vers++[nv]⟩) (fun y=>xs.set p y):=fun y=>by
  have hp:=(G1.1 hc).1;have hx:=(G1.1 hy).1;have hc':(o.set p ⟨c.Key,c.Vers++[nv]⟩)[p]? =some ⟨c.Key,c.Vers++[nv]⟩:=Ac3 hp;have hy':(xs.set p y)[p]? =some y:=Ac3 hx;refine⟨by rw[a9,a9,hl],?_,?_⟩
  · rw[AP6 hc' hy',List.take_set_of_le (K9 _),List.take_set_of_le (K9 _),List.drop_set_of_lt qz7,List.drop_set_of_lt qz7]
    rfl
  · have h:=Ad4 (ow:=B8.ow) hc' hy'
    rw[List.eraseIdx_set_eq,List.eraseIdx_set_eq]at h;refine List.Perm.trans ?_ h.symm;unfold B8.ow;simp only[Y3,m4,List.map_nil];exact List.Perm.refl _
theorem CJ7 {o:List B8}{xs:List Value}{p:Nat}(hp:p≤o.length)(hl:xs.length=o.length)(k:Str)(nv:U0):
    Bd8 ((L4 B8.ocs o xs).take p) k [U0.cs nv] ((L4 B8.ocs o xs).drop p) (nin B8.ow o xs) (o.take p++⟨k,[nv]⟩::o.drop p) (fun y=>xs.take p++y::xs.drop p):=fun y=>
  ⟨by rw[Cs6 qz7,Cs6 hp,hl],Db5 (ocs:=B8.ocs) (p:=⟨k,[nv]⟩) hp hl,nin_ins (ow:=B8.ow) (p:=⟨k,[nv]⟩) hp hl⟩
theorem BE0 {l o:List B8}{w:List B1}{t:Int}{i:Nat}{x:B1}(h:m8 l w t=m8 o (w.drop i) t)(hx:w[i]? =some x)(ht:¬t≤O5 o x.Key):m8 l w t=m8 (AG3 o x t) (w.drop (i+1)) t:=by
  rw[h,J8 hx];unfold m8;rw[D0 BU4]
  cases w.drop (i+1)<;>rfl
theorem Cs7 {l o:List B8}{w:List B1}{t:Int}{i:Nat}{x:B1}(h:m8 l w t=m8 o (w.drop i) t)(hx:w[i]? =some x)(ht:t≤O5 o x.Key):m8 l w t=none:=by
  rw[h,J8 hx];unfold m8;rw[D9 BU4]
theorem DL3 {l o:List B8}{w:List B1}{t:Int}{i:Nat}(h:m8 l w t=m8 o (w.drop i) t)(hi:w.length≤i):m8 l w t=some o:=by
  rw[h,r9 hi];rfl
theorem Cs8 (l:List B8)(w:List B1)(t:Int)(ho:AN8 l)(hs:D2 B8.size l≤1048576)(hw:D2 B1.size w≤1048576):M0 342 [AV.list 2 (l.map B8.cs),AV.list 3 (w.map B1.cs),AV.int t] [] (fun x:Value×List Value=>x.2.length=(putCells l w t).1.length) (fun x=> .arr x.1 214 2 (L4 B8.ocs (putCells l w t).1 x.2)::nin B8.ow (putCells l w t).1 x.2) (fun x=>AV.tup [AV.is x.1,AV.bool (putCells l w t).2]):=by
 have hwl:w.length≤1048576:=L7 M7 hw;refine C8 func342 rfl ntmps342 rfl ?_;refine zq10 ?_;refine R5 ?_;refine Av9 [] 0 1 ([]) ([]) (fun zz=>nin B8.ow l zz.2) rfl rfl rfl rfl call339 rfl rfl (show List.Perm ([]) (([])++([]))from List.Perm.refl _) (Bl2 l qz7) G6 (fun a=>O4) ?_;intro x14 ok14;refine R10 ?_;refine Ab2 [(2,_),(15,_),(16,_)] [] (fun (i:Nat) (v:Value) (q:List B8) (xs:List Value)=>i≤w.length∧xs.length=q.length∧AN8 q∧D2 B8.size q≤1048576+2*D2 B1.size (w.take i)∧m8 l w t=m8 q (w.drop i) t) (fun i v q xs=>[.arr v 214 2 (L4 B8.ocs q xs)]++(nin B8.ow q xs)) (fun i v q xs=>[(8,AV.is v),(17,AV.int i)]) (fun i v q xs=>w.length-i) (0) (x14.1) (l) (x14.2) ?_ (I1 (by rw[T2];rfl) A6) ?_
 ·exact⟨E4 _,ok14,ho,by omega,rfl⟩
 intro i v q xs hinv;have hlen:=hinv.2.1;refine H3 (T2 _) ?_;refine zK ?_ ?_
 ·intro h18 k18;have hlt:i<w.length:=by omega
  obtain⟨x,hx⟩:=B2 hlt;have htk:=Az4 (f:=B1.size) (l:=w) i;have hso:D2 B8.size q≤4194304:=by omega
  have hol:q.length≤4194304:=L7 M7 hso;refine zq62 ?_;intro b10;refine R9 ?_;refine A1 rfl (n2 rfl call245 rfl (BL1 q x.Key hinv.2.2.1 hso) (n7 _ _) (N7 (Ai1 zA (Ah1 B8.lcM CG2 1 rfl (fun o ho=>List.mem_of_mem_drop (i:=2) (show o∈nin B8.ow q xs from by first|exact ho|exact AM4 _ ho|exact AD7 _ ho|exact AD7 _ (AM4 _ ho)|exact AD7 _ (AD7 _ ho))))) (N7 (evb (A0 rfl)) o8))) ?_;refine zK ?_ ?_
  ·intro h26 k26;have he:putCells l w t=([],false):=by unfold putCells;rw[Cs7 hinv.2.2.2.2 hx k26]
   rw[he];refine zq149 ?_;refine i7 214 2 ?_;first|exact I9 [0] ((E6),[]) (rfl) rfl B7 AO4|exact H8 [0] 2 (nin B8.ow q xs) ((E6),[]) (rfl) rfl B7 AO4|exact I9 [0] ((E6),xs) (hinv.2.1) rfl B7 AO4|exact H8 [0] 2 (nin B8.ow q xs) ((E6),xs) (hinv.2.1) rfl B7 AO4
  intro h26 k26;refine R6 ?_;refine A1 rfl (n2 rfl call220 rfl (At6 q x.Key qz7) (Ab3 (I8 (n7 _ _) (I8 (T9 _) W9))) (N7 (Ai1 zA (Ah1 B8.lcM CG2 1 rfl (fun o ho=>List.mem_of_mem_drop (i:=2) (show o∈nin B8.ow q xs from by first|exact ho|exact AM4 _ ho|exact AD7 _ ho|exact AD7 _ (AM4 _ ho)|exact AD7 _ (AD7 _ ho))))) (N7 (evb (A0 rfl)) o8))) ?_;refine zC ?_ ?_
  ·intro h35;have hn:Ar1 q x.Key=false:=by simpa using h35
   have hpl:AK2 q x.Key≤(L4 B8.ocs q xs).length:=by rw[i0 hlen];exact CS3 _ _
   have hA:((L4 B8.ocs q xs).take (AK2 q x.Key)).length=AK2 q x.Key:=by rw[H0];omega
   obtain⟨fx,hto⟩:∃fx,Bd8 ((L4 B8.ocs q xs).take (AK2 q x.Key)) x.Key [U0.cs ⟨t,x.Val,x.Gone⟩] ((L4 B8.ocs q xs).drop (AK2 q x.Key)) (nin B8.ow q xs) (AG3 q x t) fx:=⟨_,by unfold AG3;rw[pos_new hinv.2.2.1.1 hn];exact CJ7 (CS3 _ _) hlen _ _⟩;refine R6 ?_;refine Ap0 rfl rfl rfl rfl E7 K0 zeroValue214 rfl rfl rfl rfl (B6 zA (e6 _) N6) rfl rfl ?_;intro v41;refine zI [2,0] rfl call375 (CJ5 _ _ (L4 B8.ocs q xs) [AV.str x.Key,AV.nils] rfl Db6 (AK2 q x.Key) hpl (by rw[i0 hlen];omega)) (A2 (A0 rfl) (A2 (A0 rfl) (A2 (A0 rfl) A9))) rfl ?_;intro x42 ok42;refine DX8 209 3 ?_;refine R2 ?_;refine zL [2,1,0] ?_;refine zq58 ?_;intro v57_2 _;refine R1 ?_;refine zq107 ?_;refine O7 2 rfl fun one_v57_2=> ?_;refine Ag9 1 rfl rfl rfl zA zA (F6 one_v57_2) rfl z6 hA rfl ?_;refine R1 ?_;refine zL [0,0,0] ?_;refine AWP.le (U1 2 (t:=nin B8.ow (AG3 q x t) (fx v57_2)) ((hto v57_2).2.2)) ?_;refine zL [0] ?_;refine R4 ?_;refine AF1 i v q xs (i+1) (x42) (AG3 q x t) (fx v57_2) ?_ ?_ (D5 1 (Eq.trans (by exact F2 (fun z=>Own.arr _ _ _ z::_) (hto v57_2).2.1) (T2 _).symm) A6)
   ·exact⟨by omega,(hto _).1,Ab5 hinv.2.2.1 _ _,by have h8:=Ah2 q x t;have h9:=AV2 (f:=B1.size) hx;omega,BE0 hinv.2.2.2.2 hx k26⟩
   omega
  intro h35;have hn:Ar1 q x.Key=true:=by simpa using h35
  obtain⟨c,hc,hck,hins⟩:=pos_has hinv.2.2.1.1 hn ⟨t,x.Val,x.Gone⟩;have hpo:=(G1.1 hc).1;obtain⟨y,hy⟩:=B2 (show AK2 q x.Key<xs.length by omega);have hA:=AC9 (ocs:=B8.ocs) hc hy;obtain⟨fx,hto⟩:∃fx,Bd8 (L4 B8.ocs (q.take (AK2 q x.Key)) (xs.take (AK2 q x.Key))) c.Key (c.Vers.map U0.cs++[U0.cs ⟨t,x.Val,x.Gone⟩]) (L4 B8.ocs (q.drop (AK2 q x.Key+1)) (xs.drop (AK2 q x.Key+1))) (nin B8.ow (q.eraseIdx (AK2 q x.Key)) (xs.eraseIdx (AK2 q x.Key))) (AG3 q x t) fx:=⟨_,by have h7:=CJ6 hc hy hlen ⟨t,x.Val,x.Gone⟩;unfold AG3;rw[hins,←hck];rw[hck]at h7⊢;exact h7⟩;have hcs:=AW0 (L7 (W4 hc) hso);rw[AP6 hc hy];refine AWP.le (U1 2 (t:=(B8.ow c y)++(nin B8.ow (q.eraseIdx (AK2 q x.Key)) (xs.eraseIdx (AK2 q x.Key)))) (Ad4 (ow:=B8.ow) hc hy)) ?_;refine R1 ?_;refine zL [0,0,0] ?_;refine zq58 ?_;intro v57_3 _;refine R1 ?_;refine zq107 ?_;refine O7 2 rfl fun one_v57_3=> ?_;refine Ag9 1 rfl rfl rfl zA zA (F6 one_v57_3) rfl z6 hA rfl ?_;refine R1 ?_;refine zL [0,0,0] ?_;refine AWP.le (U1 2 (t:=nin B8.ow (AG3 q x t) (fx v57_3)) ((hto v57_3).2.2)) ?_;refine zL [0] ?_;refine R4 ?_;refine AF1 i v q xs (i+1) (v) (AG3 q x t) (fx v57_3) ?_ ?_ (D5 1 (Eq.trans (by exact F2 (fun z=>Own.arr _ _ _ z::_) (hto v57_3).2.1) (T2 _).symm) A6)
  ·exact⟨by omega,(hto _).1,Ab5 hinv.2.2.1 _ _,by have h8:=Ah2 q x t;have h9:=AV2 (f:=B1.size) hx;omega,BE0 hinv.2.2.2.2 hx k26⟩
  omega
 intro h18 k18;have hge:w.length≤i:=by omega
 have hpe:=DL3 hinv.2.2.2.2 hge;have htk:=Az4 (f:=B1.size) (l:=w) i;have hso:D2 B8.size q≤4194304:=by omega
 refine R5 ?_;refine A1 rfl (n2 rfl call243 rfl (Bc0 q hso) (T9 _) (N7 (Ai1 zA (Ah1 B8.lcM CG2 0 rfl (fun o ho=>List.mem_of_mem_drop (i:=1) (show o∈nin B8.ow q xs from by first|exact ho|exact AM4 _ ho|exact AD7 _ ho|exact AD7 _ (AM4 _ ho)|exact AD7 _ (AD7 _ ho))))) o8)) ?_;refine zC ?_ ?_
 ·intro h63;have he:putCells l w t=([],false):=by unfold putCells;rw[hpe];simp only;rw[D9 h63]
  rw[he];refine zq149 ?_;refine i7 214 2 ?_;first|exact I9 [0] ((E6),[]) (rfl) rfl B7 AO4|exact H8 [0] 1 (nin B8.ow q xs) ((E6),[]) (rfl) rfl B7 AO4|exact I9 [0] ((E6),xs) (hinv.2.1) rfl B7 AO4|exact H8 [0] 1 (nin B8.ow q xs) ((E6),xs) (hinv.2.1) rfl B7 AO4
 intro h63;have he:putCells l w t=(q,true):=by unfold putCells;rw[hpe];simp only;rw[D0 (by rw[h63];decide)]
 rw[he];refine R8 ?_;first|exact I9 [0] (v,[]) (rfl) rfl B7 AO4|exact H8 [0] 0 (nin B8.ow q xs) (v,[]) (rfl) rfl B7 AO4|exact H8 [0] 0 (nin B8.ow q xs) (v,xs) (hinv.2.1) rfl B7 AO4
theorem Db7 (l:List B8)(w:List B1)(t:Int)(ho:AN8 l)(hs:D2 B8.size l≤1048576)(hw:D2 B1.size w≤1048576)(ht1:1≤t):M0 283 [AV.list 2 (l.map B8.cs),AV.list 3 (w.map B1.cs),AV.int t] [] (fun x:Value×List Value=>x.2.length=(AL8 l w t).1.length) (fun x=> .arr x.1 214 2 (L4 B8.ocs (AL8 l w t).1 x.2)::nin B8.ow (AL8 l w t).1 x.2) (fun x=>AV.tup [AV.is x.1,AV.bool (AL8 l w t).2]):=by
 have hwl:w.length≤1048576:=L7 M7 hw;refine C8 func283 rfl ntmps283 rfl ?_;refine zq10 ?_;refine R5 ?_;refine Av9 [] 0 1 ([]) ([]) (fun zz=>nin B8.ow l zz.2) rfl rfl rfl rfl call326 rfl rfl (show List.Perm ([]) (([])++([]))from List.Perm.refl _) (Cb7 l qz7) G6 (fun a=>O4) ?_;intro x15 ok15;refine R10 ?_;refine Ab2 [(2,_),(16,_),(17,_)] [] (fun (i:Nat) (v:Value) (q:List B8) (xs:List Value)=>i≤w.length∧xs.length=q.length∧AN8 q∧D2 B8.size q≤1048576+2*D2 B1.size (w.take i)∧m8 l w t=m8 q (w.drop i) t) (fun i v q xs=>[.arr v 214 2 (L4 B8.ocs q xs)]++(nin B8.ow q xs)) (fun i v q xs=>[(8,AV.is v),(18,AV.int i)]) (fun i v q xs=>w.length-i) (0) (x15.1) (l) (x15.2) ?_ (I1 (by rw[T2];rfl) A6) ?_
 ·exact⟨E4 _,ok15,ho,by omega,rfl⟩
 intro i v q xs hinv;have hlen:=hinv.2.1;have hinvo:=hinv;have hrl:(L4 B8.ocs q xs).length=q.length:=i0 hlen;refine H3 (T2 _) ?_;refine zK ?_ ?_
 ·intro h19 k19;have hlt:i<w.length:=by omega
  obtain⟨x,hx⟩:=B2 hlt;have htk:=Az4 (f:=B1.size) (l:=w) i;have hso:D2 B8.size q≤4194304:=by omega
  have hql:q.length≤4194304:=L7 M7 hso;refine zq62 ?_;intro b10;refine R11 ?_;intro b11;refine R10 ?_;refine E8 [(2,_),(8,_),(10,_),(11,_),(16,_),(17,_),(18,_),(19,_),(20,_),(21,_),(22,_),(23,_),(24,_),(25,_),(26,_),(27,_),(28,_),(29,_)] _ (fun (j:Nat)=>j≤q.length∧∀(a:Nat) (c:B8),j≤a→q[a]? =some c→Op.bytesLess x.Key c.Key=true) (fun j=>[]) (fun j=>[(12,AV.int j)]) (fun j=>j) (q.length) ?_ (G2 ⟨F2 (fun z:Nat=>some (AV.int z)) hrl,A6⟩) ?_
  ·exact⟨K9 _,fun a c ha hc=>by have:=(G1.1 hc).1;omega⟩
  intro j hinv;obtain⟨c,hc0⟩:=Aw1 q (j-1);obtain⟨y,hy0⟩:∃y,j-1<xs.length→xs[j-1]? =some y:=⟨xs[j-1]?.getD (.int .i64 0),fun h=>by rw[Q5 h];rfl⟩;have hj1:0<j→((j:Int)-1).toNat=j-1:=fun _=>by omega
  have hrow0:0<j→(L4 B8.ocs q xs)[((j:Int)-1).toNat]? =some (B8.ocs c y):=fun h=>by rw[hj1 h];exact n9 (hc0 qz7) (hy0 qz7)
  refine R9 ?_;refine zq65 ?_;refine R2 ?_;refine M1 rfl (Q3 rfl rfl rfl) (fun hc=>CG9 rfl (A7 rfl hc) (A7 rfl hc)) ?_;refine zC ?_ ?_
  ·intro h42;have hgt:0<j∧Op.bytesLess x.Key c.Key=true:=by rw[n3];simpa using h42
   refine R7 ?_;refine Al8 ?_;refine F1 j (j-1) ?_ ?_ (G2 ⟨F2 (fun z:Int=>some (AV.int z)) qz7,A6⟩)
   ·exact⟨by omega,fun a c' ha hc'=>if h9:j≤a then hinv.2 a c' h9 hc' else (by have e:a=j-1:=qz7;subst e;rw[hc0 qz7]at hc';injection hc' with hc';subst hc';exact hgt.2)⟩
   omega
  intro h42;have hng:0<j→Op.bytesLess x.Key c.Key=false:=fun h=>by rw[n3];simpa [h]using h42
  refine R10 ?_;refine zq65 ?_;refine zC ?_ ?_
  ·intro h57;have hf:0<j∧c.Key=x.Key:=by simpa using h57
   have hc:=hc0 qz7;have hy:=hy0 qz7;have hins:=Cp9 hinvo.2.2.1.1 hc hf.2 ⟨t,x.Val,x.Gone⟩;refine R6 ?_;refine A1 rfl (n2 rfl call330 rfl (BZ4 q x.Key hinvo.2.2.1 hso) (n7 _ _) (N7 (Ai1 zA (Ah1 B8.lcM CG2 2 rfl (fun o ho=>List.mem_of_mem_drop (i:=3) (show o∈nin B8.ow q xs from by first|exact ho|exact AM4 _ ho|exact AD7 _ ho|exact AD7 _ (AM4 _ ho)|exact AD7 _ (AD7 _ ho))))) (N7 (evb (A0 rfl)) o8))) ?_;refine zK ?_ ?_
   ·intro h63 k63;have he:AL8 l w t=([],false):=by unfold AL8;rw[Cs7 hinvo.2.2.2.2 hx k63]
    rw[he];refine zq149 ?_;refine i7 214 2 ?_;first|exact I9 [0] ((E6),[]) (rfl) rfl B7 AO4|exact H8 [0] 3 (nin B8.ow q xs) ((E6),[]) (rfl) rfl B7 AO4|exact I9 [0] ((E6),xs) (hinv.2.1) rfl B7 AO4|exact H8 [0] 3 (nin B8.ow q xs) ((E6),xs) (hinv.2.1) rfl B7 AO4
   intro h63 k63;have hnt:¬t≤O5 q x.Key:=k63;have hA:(L4 B8.ocs (q.take (j-1)) (xs.take (j-1))).length=((j:Int)-1).toNat:=(AC9 (ocs:=B8.ocs) hc hy).trans (hj1 hf.1).symm;obtain⟨fx,hto⟩:∃fx,Bd8 (L4 B8.ocs (q.take (j-1)) (xs.take (j-1))) c.Key (c.Vers.map U0.cs++[U0.cs ⟨t,x.Val,x.Gone⟩]) (L4 B8.ocs (q.drop (j-1+1)) (xs.drop (j-1+1))) (nin B8.ow (q.eraseIdx (j-1)) (xs.eraseIdx (j-1))) (AG3 q x t) fx:=⟨_,by have h7:=CJ6 hc hy hlen ⟨t,x.Val,x.Gone⟩;unfold AG3;rw[hins];rw[hf.2]at h7⊢;exact h7⟩;have hcs:=AW0 (L7 (W4 hc) hso);rw[AP6 hc hy];refine AWP.le (U1 3 (t:=(B8.ow c y)++(nin B8.ow (q.eraseIdx (j-1)) (xs.eraseIdx (j-1)))) (Ad4 (ow:=B8.ow) hc hy)) ?_;refine R2 ?_;refine zL [0,1,1] ?_;refine P1 _ [(0,false),(1,false),(2,false),(3,false),(4,false),(5,false),(6,false),(7,false),(8,false),(9,false),(10,false),(11,true)] E3 E3 rfl (U8 2) ?_;refine R6 ?_;refine zq33 ?_;refine R2 ?_;refine U2 rfl rfl rfl (N3 (by':=32) 2 rfl X7 type209 rfl rfl rfl rfl rfl rfl zA zA rfl qz1) (fun a _=>qz3) ?_;intro v75_2 _;refine R1 ?_;refine zq107 ?_;refine O7 2 rfl fun one_v75_2=> ?_;refine Ag9 1 rfl rfl rfl zA zA (F6 one_v75_2) rfl z6 hA rfl ?_;refine R2 ?_;refine H3 qz54 ?_;refine zL [0,0,1,0] ?_;refine AWP.le (U1 3 (t:=nin B8.ow (AG3 q x t) (fx v75_2)) ((hto v75_2).2.2)) ?_;refine R4 ?_;refine AF1 i v q xs (i+1) (v) (AG3 q x t) (fx v75_2) ?_ ?_ (Le.trans (B4 [0,1,0] rfl) (D5 2 (Eq.trans (by first|exact F2 (fun z=>Own.arr _ _ _ z::_) (hto v75_2).2.1|exact F2 (fun z=>Own.arr _ _ _ z::_) (by first|(rw[AI0,o7];exact(hto v75_2).2.1)|(rw[o7];exact(hto v75_2).2.1))) (T2 _).symm) A6))
   ·exact⟨by omega,(hto _).1,Ab5 hinvo.2.2.1 _ _,by have h8:=Ah2 q x t;have h9:=AV2 (f:=B1.size) hx;omega,BE0 hinvo.2.2.2.2 hx hnt⟩
   omega
  intro h57;have hnf:0<j→c.Key≠x.Key:=fun h=>by simpa [h]using h57
  obtain⟨hins,hl0⟩:=scan_new hinvo.2.2.1.1 hinv.1 hinv.2 (fun z hz hzz=>by rw[hc0 qz7]at hzz;injection hzz with hzz;subst hzz;rw[n3,hng hz];simpa using fun e=>hnf hz e.symm) ⟨t,x.Val,x.Gone⟩;have hnt:¬t≤O5 q x.Key:=by rw[hl0];omega
  obtain⟨fx,hto⟩:∃fx,Bd8 ((L4 B8.ocs q xs).take j) x.Key [U0.cs ⟨t,x.Val,x.Gone⟩] ((L4 B8.ocs q xs).drop j) (nin B8.ow q xs) (AG3 q x t) fx:=⟨_,by unfold AG3;rw[hins];exact CJ7 hinv.1 hlen _ _⟩;refine R2 ?_;refine AWP.le (AI8 [2] 8 rfl rfl (K2 (C3 (i:=0) rfl) G3) M6) ?_;refine R1 ?_;refine S3 rfl rfl rfl rfl E7 K0 ?_;intro v78;refine R2 ?_;refine A1 rfl (Co0 rfl E7 K0 zA zA qz7 (by rw[hrl];omega)) ?_;refine I0 (by':=40) 0 rfl rfl rfl rfl E7 type214 rfl rfl rfl rfl rfl rfl zA zA rfl BY2 ?_;intro v82_3;refine R2 ?_;refine AWP.le (AI8 [0] 13 rfl rfl (K2 (C3 (i:=0) rfl) G3) M6) ?_;refine zL [0,0] ?_;refine Z9 _ 14 (.pure 1 (.pure 2 (.pure 3 (.pure 5 (.pure 6 (.pure 7 (.pure 12 (.e2 0 (.e2 4 (.e1 8 (.pure 9 (.pure 10 (.e1 11 (.e1 13 .nil))))) 8 (.pure 9 (.pure 10 (.e1 4 (.e1 11 (.e1 13 .nil)))))) 8 (.pure 9 (.pure 10 (.e1 0 (.e1 4 (.e1 11 (.e1 13 .nil)))))))))))))) E3 E3 rfl (U8 2) ?_;refine R2 ?_;refine N8 rfl rfl rfl (fun ext=>Cn9 rfl E7 K0 zA zA qz7 (by rw[hrl];omega)) ?_;refine R4 ?_;refine AR7 ?_ ?_
  ·refine F7 rfl rfl rfl (AC6 2<|AC3 rfl E7 K0) (fun a _=>qz3) ?_;intro v83 _;refine AR7 ?_ ?_
   ·refine zq22 ?_;intro v87_4 _;refine R1 ?_;refine zq186 ?_;intro v91 hone_v91;have one_v91:=hone_v91.2;refine zq59 ?_;refine R2 ?_;refine zq22 ?_;intro v94_5 _;refine R1 ?_;refine zq22 ?_;intro v96_6 _;refine R3 ?_;refine H3 qz54 ?_;refine zL [0,0,0,0] ?_;refine zq140 ?_;refine AF1 i v q xs (i+1) (v96_6) (AG3 q x t) (fx v91) ?_ ?_ (Le.trans (B4 [0,0,0] rfl) (D5 2 (Eq.trans qz71 (T2 _).symm) A6))
    ·exact⟨by omega,(hto _).1,Ab5 hinvo.2.2.1 _ _,by have h8:=Ah2 q x t;have h9:=AV2 (f:=B1.size) hx;omega,BE0 hinvo.2.2.2.2 hx hnt⟩
    omega
   refine zq186 ?_;intro v91 hone_v91;have one_v91:=hone_v91.2;refine zq59 ?_;refine R2 ?_;refine zq22 ?_;intro v87_7 _;refine R1 ?_;refine zq22 ?_;intro v94_8 _;refine R1 ?_;refine zq22 ?_;intro v96_9 _;refine R3 ?_;refine H3 qz54 ?_;refine zL [0,0,0,0] ?_;refine zq140 ?_;refine AF1 i v q xs (i+1) (v96_9) (AG3 q x t) (fx v91) ?_ ?_ (Le.trans (B4 [0,0,0] rfl) (D5 2 (Eq.trans qz71 (T2 _).symm) A6))
   ·exact⟨by omega,(hto _).1,Ab5 hinvo.2.2.1 _ _,by have h8:=Ah2 q x t;have h9:=AV2 (f:=B1.size) hx;omega,BE0 hinvo.2.2.2.2 hx hnt⟩
   omega
  refine F7 rfl rfl rfl (J2 2 (fun _=>rfl) (AC6 2<|Ay1 rfl X7 z5 zeroValue209 rfl rfl rfl rfl (B6 zA (e6 _) N6) rfl rfl)) (fun a _=>qz3) ?_;intro v91 hone_v91;have one_v91:=hone_v91.2;refine zq59 ?_;refine R2 ?_;refine F7 rfl rfl rfl (AC6 3<|AC3 rfl E7 K0) (fun a _=>qz3) ?_;intro v83 _;refine zq102 ?_;intro v87_10 _;refine zq102 ?_;intro v94_11 _;refine zq102 ?_;intro v96_12 _;refine R3 ?_;refine H3 qz54 ?_;refine zL [0,0,1,0] ?_;refine zq140 ?_;refine AF1 i v q xs (i+1) (v96_12) (AG3 q x t) (fx v91) ?_ ?_ (Le.trans (B4 [0,0,0] rfl) (D5 2 (Eq.trans qz71 (T2 _).symm) A6))
  ·exact⟨by omega,(hto _).1,Ab5 hinvo.2.2.1 _ _,by have h8:=Ah2 q x t;have h9:=AV2 (f:=B1.size) hx;omega,BE0 hinvo.2.2.2.2 hx hnt⟩
  omega
 intro h19 k19;have hge:w.length≤i:=by omega
 have hpe:=DL3 hinv.2.2.2.2 hge;have htk:=Az4 (f:=B1.size) (l:=w) i;have hso:D2 B8.size q≤4194304:=by omega
 have he:AL8 l w t=(q,BB1 q):=by unfold AL8;rw[hpe]
 rw[he];refine R5 ?_;refine A1 rfl (n2 rfl call331 rfl (By7 q hso) (T9 _) (N7 (Ai1 zA (Ah1 B8.lcM CG2 0 rfl (fun o ho=>List.mem_of_mem_drop (i:=1) (show o∈nin B8.ow q xs from by first|exact ho|exact AM4 _ ho|exact AD7 _ ho|exact AD7 _ (AM4 _ ho)|exact AD7 _ (AD7 _ ho))))) o8)) ?_;refine R4 ?_;first|exact I9 [0] (v,[]) (rfl) rfl B7 AO4|exact H8 [0] 0 (nin B8.ow q xs) (v,[]) (rfl) rfl B7 AO4|exact H8 [0] 0 (nin B8.ow q xs) (v,xs) (hinv.2.1) rfl B7 AO4
end Go.PQ
namespace Go.M
open Go.AV
theorem Bq6 {h:E0}:∀{l:List E0} {p:Nat},p≤l.length→(∀i x,i<p→l[i]? =some x→x.Txn≤h.Txn)→(∀x,l[p]? =some x→h.Txn<x.Txn)→Ac2 h l=l.take p++h::l.drop p
  |[],p,hp,_,_=>by simp at hp;subst hp;rfl
  |g::l,0,_,_,h2=>by unfold Ac2;rw[D9 (h2 g rfl)];rfl
  | g::l,p+1,hp,h1,h2=>by
    unfold Ac2;rw[D0 (by have:=h1 0 g qz7 rfl;omega),Bq6 (by simpa using hp) (fun i x hi hx=>h1 (i+1) x qz7 AT0) (fun x hx=>h2 x AT0)];rfl
theorem Bq7 {h:H2}:∀{l:List H2} {p:Nat},p≤l.length→(∀i x,i<p→l[i]? =some x→x.Txn≤h.Txn)→(∀x,l[p]? =some x→h.Txn<x.Txn)→AY1 h l=l.take p++h::l.drop p
  |[],p,hp,_,_=>by simp at hp;subst hp;rfl
  |g::l,0,_,_,h2=>by unfold AY1;rw[D9 (h2 g rfl)];rfl
  | g::l,p+1,hp,h1,h2=>by
    unfold AY1;rw[D0 (by have:=h1 0 g qz7 rfl;omega),Bq7 (by simpa using hp) (fun i x hi hx=>h1 (i+1) x qz7 AT0) (fun x hx=>h2 x AT0)];rfl
theorem DL4 (l:List E0)(n:Int):Ak0 l n≤l.length:=Cp7 _ _ _ _ _ rfl (E4 _) (K9 _)
theorem DL5 (l:List H2)(n:Int):BB9 l n≤l.length:=Cp7 _ _ _ _ _ rfl (E4 _) (K9 _)
theorem insH_pos {l:List E0}(hs:l.Pairwise fun a b=>a.Txn<b.Txn){h:E0}(hn:BB8 l h.Txn=false):Ac2 h l=l.take (Ak0 l h.Txn)++h::l.drop (Ak0 l h.Txn):=by
  obtain⟨h1,h2⟩:=CE0 (f:=E0.Txn) hs h.Txn;rw[Ap6 hs]at hn;refine Bq6 (DL4 _ _) (fun i x hi hx=>by have:=h1 i x hi hx;omega) fun x hx=> ?_;have h3:=h2 x hx;have h4:=Ab7.1 hn x (C3 hx);omega
theorem insT_pos {l:List H2}(hs:l.Pairwise fun a b=>a.Txn<b.Txn){h:H2}(hn:CX2 l h.Txn=false):AY1 h l=l.take (BB9 l h.Txn)++h::l.drop (BB9 l h.Txn):=by
  obtain⟨h1,h2⟩:=CE0 (f:=H2.Txn) hs h.Txn;rw[Bc3 hs]at hn;refine Bq7 (DL5 _ _) (fun i x hi hx=>by have:=h1 i x hi hx;omega) fun x hx=> ?_;have h3:=h2 x hx;have h4:=Bh2.1 hn x (C3 hx);omega
theorem Db8 {l:List E0}{n:Int}(h:BB8 l n=true):∃x,l[Ak0 l n]? =some x∧x.Txn=n:=by
  unfold BB8 Ao3 at h
  cases e:l[Ak0 l n]? with
  |none=>rw[e]at h;cases h
  |some x=>rw[e]at h;exact⟨x,rfl,(BH1 _ _).1 (by simpa [hCmp]using h)⟩
theorem Db9 {l:List H2}{n:Int}(h:CX2 l n=true):∃x,l[BB9 l n]? =some x∧x.Txn=n:=by
  unfold CX2 Ao3 at h
  cases e:l[BB9 l n]? with
  |none=>rw[e]at h;cases h
  |some x=>rw[e]at h;exact⟨x,rfl,(BH1 _ _).1 (by simpa [tCmp]using h)⟩
theorem Cs9 {l:List E0}(hs:l.Pairwise fun a b=>a.Txn<b.Txn){i j:Nat}{x y:E0}(hx:l[i]? =some x)(hy:l[j]? =some y)(e:x.Txn=y.Txn):i=j:=by
  rcases Nat.lt_trichotomy i j with h|h|h
  ·have:=BQ4 (f:=E0.Txn) hs h hx hy;omega
  ·exact h
  ·have:=BQ4 (f:=E0.Txn) hs h hy hx;omega
theorem Dc0 {l:List E0}(hs:l.Pairwise fun a b=>a.Txn<b.Txn){i:Nat}{x:E0}(hx:l[i]? =some x):AE1 l x.Txn=some x:=by
  cases e:AE1 l x.Txn with
  | none=>
    rw[BN5,Ab7]at e;exact(e x (C3 hx) rfl).elim
  | some y=>
    obtain⟨h1,h2⟩:=Ap3 e;obtain⟨j,hj⟩:=i5 h1;have:=Cs9 hs hx hj h2.symm;subst this;rw[hx]at hj;exact hj.symm
theorem Ct0 {l:List E0} (hs:l.Pairwise fun a b=>a.Txn<b.Txn) {i:Nat} {x:E0} (hx:l[i]? =some x):AC2 l x.Txn=l.eraseIdx i:=by
  have h1:∀(l:List E0) (i:Nat) (x:E0),l[i]? =some x→(∀j y,l[j]? =some y→y.Txn=x.Txn→j=i)→AC2 l x.Txn=l.eraseIdx i:=by
    intro l;induction l with
    |nil=>intro i x h;simp at h
    | cons g l ih=>
      intro i x h hu
      cases i with
      | zero=>
        simp at h;subst h;rw[Bf0];unfold AC2;rw[List.filter_cons_of_neg X1,List.filter_eq_self];intro y hy;obtain⟨j,hj⟩:=i5 hy;simp only[BO6,ne_eq];intro e;have:=hu (j+1) y (by simpa using hj) e;omega
      | succ i=>
        rw[BV1,←ih i x Ag3 fun j y hj e=>by have:=hu (j+1) y (by simpa using hj) e;omega];unfold AC2;rw[List.filter_cons_of_pos];simp only[BO6,ne_eq];intro e;have:=hu 0 g rfl e;omega
  exact h1 l i x hx fun j y hj e=>Cs9 hs hj hx e
theorem Ct1 {l:List E0}{n:Int}(h:AO2 l n=false):AC2 l n=l:=by
  unfold AC2;rw[List.filter_eq_self];intro y hy;simpa using Ab7.1 h y hy
def E0.ocs (h:E0)(x:Value×Value):List AV:=[AV.int h.Txn,AV.int h.Time,AV.int h.Lead,AV.is x.1,AV.is x.2]
def E1.ocs (s:E1)(x:Value×Value):List AV:=[AV.int s.Floor,AV.list 2 (s.Cells.map B8.cs),AV.is x.1,AV.is x.2]
def BE9 (s:E1) (r:N5):E1×Bool:=
  if r.Yes=true then (match AE1 s.Held r.Txn with
    |none=>(V0,false)
    |some h=>if r.Time<h.Time then (V0,false)else if (AL8 s.Cells h.Writes r.Time).2=true then (AQ2 s r (if s.Floor<r.Time then r.Time else s.Floor) (AL8 s.Cells h.Writes r.Time).1,true)else (V0,false))
  else (AQ2 s r s.Floor s.Cells,true)
def AR3 (s:E1)(r:N5):E1×Bool:=if (Y2 s r).2=true then ((Y2 s r).1,true)else (V0,false)
theorem appR_dec {s:E1} {r:N5} (h4:r.Kind≠4) (hT:AU2 s.Told r.Txn=false) (h1:r.Kind≠1):AR3 s r=BE9 s r:=by
  unfold AR3 BE9 Y2;rw[D0 h4,D0 (show ¬AU2 s.Told r.Txn=true by rw[hT];decide),D0 h1];by_cases hy:r.Yes=true
  · rw[D9 hy,D9 hy]
    cases AE1 s.Held r.Txn with
    |none=>rfl
    | some h=>
      dsimp only;split
      ·rfl
      · split
        ·rfl
        ·rfl
  ·rw[D0 hy,D0 hy];rfl
end Go.M
namespace Go.PQ
open Go.Proofs
open Go Go.AV Go.M
def E0.ow (h:E0)(x:Value×Value):List Own:=[.arr x.1 9 1 (h.Reads.map fun k=>[AV.str k]),.arr x.2 248 3 (h.Writes.map B1.cs)]
def E1.ow (s:E1)(x:Value×Value):List Own:=[.arr x.1 144 5 (s.Held.map E0.cs),.arr x.2 118 3 (s.Told.map H2.cs)]
theorem E0.lc (h:E0)(x:Value×Value):AJ1 (E0.ow h x) (E0.ocs h x) h.cs:=
  D7 H9 (D7 H9 (D7 H9 (D7 (K2 (C3 (i:=0) rfl) G3) (D7 (K2 (C3 (i:=1) rfl) G3) Z6))))
theorem E1.lc (s:E1)(x:Value×Value):AJ1 (E1.ow s x) (E1.ocs s x) s.cs:=
  D7 H9 (D7 H9 (D7 (K2 (C3 (i:=0) rfl) G3) (D7 (K2 (C3 (i:=1) rfl) G3) Z6)))
attribute [local irreducible] OpW OpA OpS AWP J6 L6 K3 OpE K4 I5 L0 Le Ev G4 L9 Int.tmod Int.tdiv IntKind.wrap
namespace tw10n1
def tw10x0 :=@Tryz.func345
def tw10x1 :=@Tryz.ntmps345
end tw10n1
open tw10n1 in
theorem DR5 (h k:E0)(h1:h.Writes.length≤4611686018427387903)(ha:adj X6 h.Writes=true)(hk:adj X6 k.Writes=true∧k.Writes.length≤4611686018427387903):D6 345 [AV.agg k.cs,AV.eptr h.cs] (AV.bool (Aq4 h k)):=Cs3
theorem CJ8 (l:List B8)(hs:D2 B8.size l≤4194304):D6 339 [AV.list 2 (l.map B8.cs)] (AV.list 2 (l.map B8.cs)):=
  J5 (Bl2 l hs) fun x h=>Ah1 B8.lcM h 0 rfl fun o ho=>U5 _ ho
theorem CU1 (l:List B8)(w:List B1)(t:Int)(ho:AN8 l)(hs:D2 B8.size l≤1048576)(hw:D2 B1.size w≤1048576):D6 342 [AV.list 2 (l.map B8.cs),AV.list 3 (w.map B1.cs),AV.int t] (AV.tup [AV.list 2 ((putCells l w t).1.map B8.cs),AV.bool (putCells l w t).2]):=
  J5 (Cs8 l w t ho hs hw) fun x h=>AQ7 (D7 (Ah1 B8.lcM h 0 rfl fun o ho=>U5 _ ho) (D7 H9 Z6))
theorem DR6 (r:N5)(hs:r.size≤1048576):M0 309 [AV.agg r.cs] [] (fun _:Value×Value=>True) (fun x=>E0.ow (hOf r) x) (fun x=>AV.agg (E0.ocs (hOf r) x)):=by
 obtain⟨hr1,hr2,hr3,hr4⟩:=Bq4 hs;refine C8 Tryz.func309 rfl Tryz.ntmps309 rfl ?_;refine R3 ?_;intro b1;refine R1 ?_;intro b2;refine R2 ?_;refine P1 _ [(0,false),(1,false),(2,false),(3,false),(4,false),(5,false),(6,false),(7,false),(9,false),(10,false),(8,true),(11,true)] E3 E3 rfl AZ1 ?_;refine R10 ?_;refine U2 rfl rfl rfl (S9 [] rfl Tryz.call41 rfl (Ah4 _ X9) (A2 (A0 rfl) A9) rfl) (fun a _=>qz3) ?_;intro x11 ok11;refine U2 rfl rfl rfl (S9 [] rfl Tryz.call301 rfl (BW0 _ X9) (A2 (A0 rfl) A9) rfl) (fun a _=>qz3) ?_;intro x14 ok14;refine R1 ?_;refine O7 2 rfl fun one_x11=> ?_;refine O7 3 rfl fun one_x14=> ?_;refine A1 rfl (Q7 (places:=#[(0,1),(1,1),(2,1),(3,1),(4,1)]) rfl Tryz.underlying144 Tryz.zeroValue144 (fun w=>by kernel_rfl) rfl (B6 zA (X2 _ _) (B6 zA (X2 _ _) (B6 zA (X2 _ _) (B6 zA (F6 one_x11) (B6 zA (F6 one_x14) N6))))) rfl) ?_;refine R3 ?_;exact I9 [2,2] (x11,x14) (trivial) rfl B7 (O2 rfl (F5 (ys:=_) 0 rfl rfl Ae4 O0 rfl))
theorem Bz2 (r:N5)(hs:r.size≤1048576):D6 309 [AV.agg r.cs] (AV.agg (hOf r).cs):=
  J5 (DR6 r hs) fun x _=>AO7 (E0.lc _ x)
theorem Bl3 (h:E0)(hs:h.size≤1048576):D6 341 [AV.agg h.cs] (AV.agg h.cs):=by
  refine B0 Tryz.func341 rfl Tryz.ntmps341 rfl ?_;refine R3 ?_;intro b1;refine R1 ?_;intro b2;refine R4 ?_;refine zF rfl Tryz.call295 (Cs2 _) G6 ?_;refine zF rfl Tryz.call309 (Bz2 (AW5 h) hs) G6 ?_;refine R3 ?_;exact D1 rfl (F5 (ys:=_) 0 rfl rfl Ae4 O0 rfl)
theorem BL2 (s:E1)(hs:s.size≤1048576):M0 305 [AV.agg s.cs] [] (fun _:Value×Value=>True) (fun x=>E1.ow s x) (fun x=>AV.agg (E1.ocs s x)):=by
 obtain⟨hs1,hs2,hs3,hs4,hs5⟩:=AB6 hs;refine C8 Tryz.func305 rfl Tryz.ntmps305 rfl ?_;refine R3 ?_;intro b1;refine R1 ?_;intro b2;refine R2 ?_;refine Z9 _ 10 (.pure 0 (.pure 1 (.pure 2 (.pure 3 (.pure 4 (.pure 5 (.pure 6 (.e2 7 (.pure 8 (.e1 9 .nil)) 9 (.e1 7 (.pure 8 .nil)))))))))) E3 E3 rfl AZ1 ?_;refine R4 ?_;refine N8 rfl rfl rfl (fun ext=>zG rfl Tryz.call339 (CJ8 s.Cells qz7) G6) ?_;refine R2 ?_;refine AR7 ?_ ?_
 ·refine F7 rfl rfl rfl (J2 2 (fun _=>rfl) (S9 [] rfl Tryz.call340 rfl (Bb6 _ X9) (A2 (A0 rfl) A9) rfl)) (fun a _=>qz3) ?_;intro x13 ok13;have one_x13:=ok13.2
  replace ok13:=ok13.1
  refine zq108 ?_;refine R1 ?_;refine F7 rfl rfl rfl (S4 rfl Tryz.zeroValue64 rfl) (fun a _=>qz3) ?_;intro b3 _;refine R12 ?_;refine X5 144 5 ?_;refine zL [4,0] ?_;refine K5 [(2,_),(3,_),(16,_),(17,_)] _ (fun (i:Nat) (v:Value)=>i≤s.Held.length) (fun i v=>[.box b3 64 [AV.int s.Floor,AV.list 2 (s.Cells.map B8.cs),AV.is v,AV.is x13],.arr v 144 5 ((s.Held.take i).map E0.cs)]) (fun i v=>[(18,AV.int i)]) (fun i v=>s.Held.length-i) (0) ((E6)) ?_ (I1 B7 A6) ?_
  ·exact E4 _
  intro i v hinv;refine zK ?_ ?_
  ·intro h19 k19;have hlt:i<s.Held.length:=by omega
   obtain⟨h,hx⟩:=B2 hlt;obtain⟨g1,g2,g3,g4,g5⟩:=AM0 hs2 hx;refine zq27 ?_;intro b5;refine R2 ?_;refine zq131 ?_;intro v27_1;refine R1 ?_;refine O7 2 rfl fun one_v27_1=> ?_;refine N2 1 rfl rfl rfl zA zA (F6 one_v27_1) rfl AM9 rfl ?_;refine R5 ?_;refine H5 i v (i+1) (v27_1) ?_ ?_ (Le.trans (B4 [0,0,0] rfl) (D5 1 (by exact F2 (fun z=>Own.box b3 64 [AV.int s.Floor,AV.list 2 (s.Cells.map B8.cs),AV.is v27_1,AV.is x13]::Own.arr v27_1 144 5 z::_) (AS5 (f:=E0.cs) hx)) A6))
   ·omega
   omega
  intro h19 k19;have hge:i=s.Held.length:=by omega
  rw[hge,AO5];exact zq224
 refine F7 rfl rfl rfl (S4 rfl Tryz.zeroValue64 rfl) (fun a _=>qz3) ?_;intro b3 _;refine R1 ?_;refine F7 rfl rfl rfl (J2 3 (fun _=>rfl) (S9 [] rfl Tryz.call340 rfl (Bb6 _ X9) (A2 (A0 rfl) A9) rfl)) (fun a _=>qz3) ?_;intro x13 ok13;have one_x13:=ok13.2
 replace ok13:=ok13.1
 refine zq108 ?_;refine R12 ?_;refine X5 144 5 ?_;refine zL [3,0] ?_;refine K5 [(2,_),(3,_),(16,_),(17,_)] _ (fun (i:Nat) (v:Value)=>i≤s.Held.length) (fun i v=>[.box b3 64 [AV.int s.Floor,AV.list 2 (s.Cells.map B8.cs),AV.is v,AV.is x13],.arr v 144 5 ((s.Held.take i).map E0.cs)]) (fun i v=>[(18,AV.int i)]) (fun i v=>s.Held.length-i) (0) ((E6)) ?_ (I1 B7 A6) ?_
 ·exact E4 _
 intro i v hinv;refine zK ?_ ?_
 ·intro h19 k19;have hlt:i<s.Held.length:=by omega
  obtain⟨h,hx⟩:=B2 hlt;obtain⟨g1,g2,g3,g4,g5⟩:=AM0 hs2 hx;refine zq27 ?_;intro b5;refine R2 ?_;refine zq131 ?_;intro v27_2;refine R1 ?_;refine O7 2 rfl fun one_v27_2=> ?_;refine N2 1 rfl rfl rfl zA zA (F6 one_v27_2) rfl AM9 rfl ?_;refine R5 ?_;refine H5 i v (i+1) (v27_2) ?_ ?_ (Le.trans (B4 [0,0,0] rfl) (D5 1 (by exact F2 (fun z=>Own.box b3 64 [AV.int s.Floor,AV.list 2 (s.Cells.map B8.cs),AV.is v27_2,AV.is x13]::Own.arr v27_2 144 5 z::_) (AS5 (f:=E0.cs) hx)) A6))
  ·omega
  omega
 intro h19 k19;have hge:i=s.Held.length:=by omega
 rw[hge,AO5];exact zq224
theorem DR7 (l:List B8)(w:List B1)(t:Int):(putCells l w t).2=(AL8 l w t).2∧((AL8 l w t).2=true→(putCells l w t).1=(AL8 l w t).1):=by
  rw[DB6]
  cases h:(AL8 l w t).2<;>simp
theorem DD3 (s:E1)(r:N5)(hg:o1 s.Cells=true)(hsr:s.Held.Pairwise fun a b=>a.Txn<b.Txn)(htr:s.Told.Pairwise fun a b=>a.Txn<b.Txn)(hT:AU2 s.Told r.Txn=false)(hs:s.size≤1048576):M0 306 [AV.agg s.cs,AV.agg r.cs] [] (fun _:Value×Value=>True) (fun x=>E1.ow (BE9 s r).1 x) (fun x=>AV.tup [AV.agg (E1.ocs (BE9 s r).1 x),AV.bool (BE9 s r).2]):=by
 obtain⟨hs1,hs2,hs3,hs4,hs5⟩:=AB6 hs;have hco:=AJ6 hg;have hins:AY1 ⟨r.Txn,r.Yes,r.Time⟩ s.Told=s.Told.take (BB9 s.Told r.Txn)++⟨r.Txn,r.Yes,r.Time⟩::s.Told.drop (BB9 s.Told r.Txn):=insT_pos htr (by rw[Bc3 htr];exact hT);obtain⟨h,hh0⟩:∃h,BB8 s.Held r.Txn=true→s.Held[Ak0 s.Held r.Txn]? =some h∧h.Txn=r.Txn:=by
  cases e:BB8 s.Held r.Txn with
  |true=>obtain⟨x,h1,h2⟩:=Db8 e;exact⟨x,fun _=>⟨h1,h2⟩⟩
  |false=>exact⟨⟨0,0,0,[],[]⟩,fun h=>by cases h⟩
 have hfd:BB8 s.Held r.Txn=true→AE1 s.Held r.Txn=some h:=fun e=>by obtain⟨h1,h2⟩:=hh0 e;have:=Dc0 hsr h1;rw[h2]at this;exact this
 have hfn:BB8 s.Held r.Txn=false→AE1 s.Held r.Txn=none:=fun e=>by rw[Ap6 hsr]at e;exact BN5.2 e
 have hrow:BB8 s.Held r.Txn=true→(s.Held.map E0.cs)[((Ak0 s.Held r.Txn:Nat):Int).toNat]? =some h.cs:=fun e=>by rw[o5,a8,(hh0 e).1];rfl
 have hplt:BB8 s.Held r.Txn=true→Ak0 s.Held r.Txn<s.Held.length:=fun e=>(G1.1 (hh0 e).1).1;have htle:=DL5 s.Told r.Txn;refine C8 Tryz.func306 rfl Tryz.ntmps306 rfl ?_;refine R3 ?_;intro b2;refine R1 ?_;intro b3;refine R1 ?_;intro b4;refine R5 ?_;refine zI [] rfl Tryz.call305 (BL2 s hs) G6 rfl ?_;intro x14 ok14;refine R1 ?_;intro b6;refine R3 ?_;refine H3 Ab1 ?_;refine R4 ?_;refine A1 rfl (n2 rfl Tryz.call76 rfl (At7 s r.Txn hs5) (Ab3 (I8 (n7 _ _) (I8 (T9 _) W9))) (N7 (Ai1 zA (AO7 (D7 H9 (D7 H9 (D7 (K2 (C3 (i:=1) rfl) G3) (D7 (K2 (C3 (i:=2) rfl) G3) Z6)))))) Ax6)) ?_;refine zC ?_ ?_
 ·intro h23;refine R9 ?_;refine M1 rfl (Y6 rfl rfl rfl) (fun hc=>I4 1 rfl H1 O0 (A7 rfl hc) rfl (A7 rfl hc) qz7 (by have:=hplt (by simpa using hc);simp only[A8];omega)) ?_;refine M1 rfl (Y6 rfl rfl rfl) (fun hc=>O1 1 rfl Tryz.underlying144 rfl E9 (A7 rfl hc) rfl rfl (hrow (by simpa using hc))) ?_;refine M1 rfl (Y6 rfl rfl rfl) (fun hc=>Q6 1 rfl (A7 rfl hc) rfl O3 (hrow (by simpa using hc)) rfl) ?_;refine zC ?_ ?_
  ·intro h36;have hdec:BE9 s r=(V0,false):=by (unfold BE9;rw[D9 h23];cases e:BB8 s.Held r.Txn with|false=>(rw[hfn e])|true=>(rw[hfd e];dsimp only;rw[D9 (by rw[e]at h36;simpa using h36)]))
   rw[hdec];refine R7 ?_;exact zq109
  intro h36;simp only[v9,AD1,AB8]at h36;obtain⟨hhas,hnlt⟩:=h36;have hlt:=hplt hhas;obtain⟨g1,g2,g3,g4,g5⟩:=AM0 hs2 (hh0 hhas).1;have hpc:=DR7 s.Cells h.Writes r.Time;refine R8 ?_;refine B3 rfl rfl (I4 1 rfl H1 O0 zA rfl zA qz7 AE8) ?_;refine B3 rfl rfl (O1 1 rfl Tryz.underlying144 rfl Tryz.sizeOf123 zA rfl rfl (hrow hhas)) ?_;refine B3 rfl rfl (Q6 1 rfl zA rfl Tryz.isAgg123 (hrow hhas) rfl) ?_;refine R2 ?_;refine B3 rfl rfl (zG rfl Tryz.call342 (CU1 s.Cells h.Writes r.Time hco hs1 qz7) AD5) ?_;refine R8 ?_;refine H3 Ab1 ?_;refine zC ?_ ?_
  ·intro h53;have hdec:BE9 s r=(V0,false):=by (unfold BE9;rw[D9 h23,hfd hhas];dsimp only;rw[D0 qz7,D0 (by rw[←hpc.1];simpa using h53)])
   rw[hdec];refine R7 ?_;exact zq109
  intro h53;have hok:(putCells s.Cells h.Writes r.Time).2=true:=by simpa using h53
  have hdec:BE9 s r=(AQ2 s r (if s.Floor<r.Time then r.Time else s.Floor) (putCells s.Cells h.Writes r.Time).1,true):=by (unfold BE9;rw[D9 h23,hfd hhas];dsimp only;rw[D0 qz7,D9 (by rw[←hpc.1];exact hok),hpc.2 (by rw[←hpc.1];exact hok)])
  refine R12 ?_;refine A1 rfl (w_max rfl zA zA) ?_;refine R5 ?_;refine H3 Ab1 ?_;refine zC ?_ ?_
  ·intro h63;have hless:AC2 s.Held r.Txn=s.Held.eraseIdx (Ak0 s.Held r.Txn):=by (rw[←(hh0 h63).2];exact Ct0 hsr (hh0 h63).1▸by rw[(hh0 h63).2])
   rw[hdec];unfold AQ2;rw[hless,hins];have hlt2:=hplt h63;refine zq198 ?_;intro x69 ok69;refine R1 ?_;refine O7 0 rfl fun one_x69=> ?_;refine zq82 ?_;refine zq45 ?_;intro v88;refine zq31 ?_;intro x89 ok89;refine R1 ?_;refine O7 0 rfl fun one_x89=> ?_;exact zq123
  intro h63;have hless:AC2 s.Held r.Txn=s.Held:=Ct1 (by rw[←Ap6 hsr];exact h63);rw[hdec];unfold AQ2;rw[hless,hins];refine R2 ?_;refine zq79 ?_;intro v88;refine zq31 ?_;intro x89 ok89;refine R1 ?_;refine O7 0 rfl fun one_x89=> ?_;exact zq113
 intro h23;have hdec:BE9 s r=(AQ2 s r s.Floor s.Cells,true):=by (unfold BE9;rw[D0 (by rw[h23];decide)])
 refine R3 ?_;refine H3 Ab1 ?_;refine zC ?_ ?_
 ·intro h63;have hless:AC2 s.Held r.Txn=s.Held.eraseIdx (Ak0 s.Held r.Txn):=by (rw[←(hh0 h63).2];exact Ct0 hsr (hh0 h63).1▸by rw[(hh0 h63).2])
  rw[hdec];unfold AQ2;rw[hless,hins];have hlt2:=hplt h63;refine zq198 ?_;intro x69 ok69;refine R1 ?_;refine O7 0 rfl fun one_x69=> ?_;refine zq82 ?_;refine zq45 ?_;intro v88;refine zq31 ?_;intro x89 ok89;refine R1 ?_;refine O7 0 rfl fun one_x89=> ?_;exact zq123
 intro h63;have hless:AC2 s.Held r.Txn=s.Held:=Ct1 (by rw[←Ap6 hsr];exact h63);rw[hdec];unfold AQ2;rw[hless,hins];refine R2 ?_;refine zq79 ?_;intro v88;refine zq31 ?_;intro x89 ok89;refine R1 ?_;refine O7 0 rfl fun one_x89=> ?_;exact zq113
end Go.PQ
namespace Go.M
open Go.AV
theorem DL6 (s:E1)(r:N5):(AR3 s r).2=(Y2 s r).2∧((Y2 s r).2=true→(AR3 s r).1=(Y2 s r).1):=by
  unfold AR3;cases h:(Y2 s r).2<;>simp
theorem Dc1 (s:E1)(r:N5):(if (AR3 s r).2=true then (AR3 s r).1 else s)=AK9 s r:=by
  unfold AK9 AR3;cases h:(Y2 s r).2<;>simp
theorem DD4 {s:E1}{l:List N5}{i:Nat}{r:N5}(h:l[i]? =some r):Z2 s (l.take (i+1))=AK9 (Z2 s (l.take i)) r:=by
  unfold Z2;rw[X3,h,List.foldl_append];rfl
theorem Bc4 :∀{l:List N5} {s:E1} {r:N5},Ae8 s (l++[r])=Ae8 s l++[(Y2 (Z2 s l) r).2]
  |[],s,r=>rfl
  | x::l,s,r=>by
    show _::Ae8 (AK9 s x) (l++[r])=_
    rw[Bc4];rfl
theorem Az5 {s:E1}{l:List N5}{i:Nat}{r:N5}(h:l[i]? =some r):Ae8 s (l.take (i+1))=Ae8 s (l.take i)++[(Y2 (Z2 s (l.take i)) r).2]:=by
  rw[X3,h];exact Bc4
def phi (s:E1):Nat:=D2 B8.size s.Cells+3*D2 E0.size s.Held+s.Told.length
theorem Ct2 (s:E1):s.size≤phi s:=by
  have h1:s.size=D2 B8.size s.Cells+D2 E0.size s.Held+s.Told.length:=rfl;unfold phi;omega
theorem DR8 {α:Type}{f:α→Nat}{a b:List α}(h:a.Perm b):D2 f a=D2 f b:=by
  unfold D2;rw[h.length_eq,(h.map f).sum_nat]
theorem Ct3 {t:Int}:∀{w:List B1} {l q:List B8},m8 l w t=some q→D2 B8.size q≤D2 B8.size l+2*D2 B1.size w
  |[],l,q,h=>by simp[m8]at h;subst h;omega
  | x ::w,l,q,h=>by
    unfold m8 at h;split at h
    ·cases h
    · have h1:=Ct3 h
      have h2:=Ah2 l x t;rw[i4];omega
theorem DR9 {l:List E0} {n:Int} {h:E0} (hf:AE1 l n=some h):D2 E0.size (AC2 l n)+(1+h.size)≤D2 E0.size l:=by
  induction l with
  |nil=>simp[AE1]at hf
  | cons g l ih=>
    unfold AE1 at hf ih;rw[List.find?_cons]at hf;unfold AC2 at ih⊢;by_cases e:g.Txn=n
    · rw[m6.2 e]at hf
      injection hf with hf;subst hf
      rw[List.filter_cons_of_neg (by simp[e]),i4];have:D2 E0.size (l.filter fun h=>h.Txn !=n)≤D2 E0.size l:=by
        clear ih;induction l with
        |nil=>exact K9 _
        | cons y l ih=>
          rw[List.filter_cons];split
          ·rw[i4,i4];omega
          ·rw[i4];omega
      omega
    · rw[beq_eq_false_iff_ne.2 e]at hf
      rw[List.filter_cons_of_pos (by simp[e]),i4,i4];have:=ih hf;omega
theorem DD5 (l:List E0)(n:Int):D2 E0.size (AC2 l n)≤D2 E0.size l:=by
  induction l with
  |nil=>exact K9 _
  | cons y l ih=>
    unfold AC2 at ih⊢;rw[List.filter_cons];split
    ·rw[i4,i4];omega
    ·rw[i4];omega
theorem Dc2 (s:E1) (r:N5):phi (Y2 s r).1≤phi s+3*(1+r.size)+1:=by
  have hh:(hOf r).size=r.size:=rfl;have hins:D2 E0.size (Ac2 (hOf r) s.Held)=1+r.size+D2 E0.size s.Held:=by rw[DR8 (BJ2 _ _),i4,hh]
  have htl:∀t:H2,(AY1 t s.Told).length=s.Told.length+1:=fun t=>by rw[(Bp2 _ _).length_eq];rfl
  have h2:=DD5 s.Held r.Txn;unfold Y2;split
  ·unfold phi;dsimp only;omega
  · split
    ·dsimp only;omega
    · split
      ·unfold phi;dsimp only;rw[hins];omega
      · split
        · cases hf:AE1 s.Held r.Txn with
          |none=>dsimp only;omega
          | some h=>
            dsimp only;split
            ·dsimp only;omega
            · split
              · rename_i hp
                have h3:=Ct3 (Bw2 hp).1;have h4:=DR9 hf;have h5:h.size=D2 (fun x=>x.length) h.Reads+D2 B1.size h.Writes:=rfl;unfold AQ2 phi;dsimp only;rw[htl];omega
              ·dsimp only;omega
        ·unfold AQ2 phi;dsimp only;rw[htl];omega
theorem phi_step (s:E1)(r:N5):phi (AK9 s r)≤phi s+3*(1+r.size)+1:=by
  unfold AK9;split
  ·exact Dc2 s r
  ·omega
theorem CE1 {m:Nat}:∀{l:List N5} {s:E1},(∀r∈l,r.size≤m)→phi (Z2 s l)≤phi s+l.length*(3*(1+m)+1)
  |[],s,_=>by simp[Z2]
  | r::l,s,h=>by
    have h1:=phi_step s r;have h2:=CE1 (l:=l) (s:=AK9 s r) fun x hx=>h x (U5 _ hx);have h3:=h r n4;have h4:Z2 s (r::l)=Z2 (AK9 s r) l:=rfl;rw[h4,J7,Nat.add_mul,Nat.one_mul];omega
theorem AY4 {r:N5}(h:T8 r=true):r.size≤400:=by
  have g:=goodR h;have h1:D2 (fun x:Str=>x.length) r.Reads≤r.Reads.length*13:=AE5 fun x hx=>CI0 (g.reads.2 x hx);have h2:D2 B1.size r.Writes≤r.Writes.length*37:=AE5 (f:=B1.size) fun x hx=>by
    have:=g.writes.2 x hx;have k1:=CI0 this.1;have k2:=DO4 this.2.1;show x.Key.length+x.Val.length≤36
    omega
  have h3:r.size=D2 (fun x:Str=>x.length) r.Reads+D2 B1.size r.Writes:=rfl;have:=g.reads.1;have:=g.writes.1;omega
def AX3 (l:List E0)(k:Str)(t:Int):List Int:=(l.filter fun h=>AW6 h.Writes k&&decide (h.Time≤t)).map E0.Txn
def zTold :H2:=⟨0,false,0⟩
def zHeld :E0:=⟨0,0,0,[],[]⟩
theorem CJ9 {l:List H2}{n:Int}:AD3 l n=none↔AU2 l n=false:=by
  unfold AD3 AU2;rw[List.find?_eq_none,List.any_eq_false]
theorem CK0 {l:List E0}{i:Nat}{h:E0}{k:Str}{t:Int}(hx:l[i]? =some h)(hc:(AW6 h.Writes k&&decide (h.Time≤t))=true):AX3 (l.take (i+1)) k t=AX3 (l.take i) k t++[h.Txn]:=by
  unfold AX3;rw[X3,hx,List.filter_append,Y3];show _++List.map _ (List.filter _ [h])=_
  rw[List.filter_cons_of_pos (p:=fun h:E0=>AW6 h.Writes k&&decide (h.Time≤t)) hc];rfl
theorem Cb8 {l:List E0}{i:Nat}{h:E0}{k:Str}{t:Int}(hx:l[i]? =some h)(hc:(AW6 h.Writes k&&decide (h.Time≤t))=false):AX3 (l.take (i+1)) k t=AX3 (l.take i) k t:=by
  unfold AX3;rw[X3,hx,List.filter_append,Y3];show _++List.map _ (List.filter _ [h])=_
  rw[List.filter_cons_of_neg (p:=fun h:E0=>AW6 h.Writes k&&decide (h.Time≤t)) (by rw[hc];decide)];simp
theorem DS0 (l:List E0)(k:Str)(t:Int):(AX3 l k t).length≤l.length:=by unfold AX3;rw[A8];exact List.length_filter_le _ _
theorem DS1 {s:E1}(g:GS s){h:E0}(hm:h∈s.Held):1≤h.Time∧h.Time≤100000∧adj X6 h.Writes=true:=by
  obtain⟨g1,g2,g3⟩:=g.good h hm;have h1:=g1;unfold T8 AW5 at h1;rw[D9 rfl]at h1;unfold BI0 Aa2 within at h1
  simp only[F0,H6]at h1;exact⟨by omega,by omega,BS4 g1⟩
end Go.M
namespace Go.PQ
open Go.Proofs Go.Proofs.Tryz
open Go Go.AV Go.M
attribute [local irreducible] OpW OpA OpS AWP J6 L6 K3 OpE K4 I5 L0 Le Ev G4 L9 Int.tmod Int.tdiv IntKind.wrap
theorem room_app (s:E1)(e:List (List AV))(l:List E0)(rs:List Str)(ws:List B1)(he:e=(l++[(⟨0,0,0,rs,ws⟩:E0)]).map E0.cs)(hg:o1 s.Cells=true)(hs:s.size≤1048576)(hh:D2 E0.size (l++[(⟨0,0,0,rs,ws⟩:E0)])≤1048576):D6 300 [AV.agg s.cs,AV.list 5 e] (AV.bool (decide (l.length<12)&&room s.Cells (hWs l++ws))):=by
  have h:=Cb6 s (l++[(⟨0,0,0,rs,ws⟩:E0)]) hg hs hh;have e1:hWs (l++[(⟨0,0,0,rs,ws⟩:E0)])=hWs l++ws:=by rw[Bh0,BD4];simp[hWs]
  rw[e1,←he]at h;have e2:decide ((l++[(⟨0,0,0,rs,ws⟩:E0)]).length≤12)=decide (l.length<12):=by rw[I2,decide_eq_decide];simp;omega
  rw[e2]at h;exact h
theorem Dc3 (s:E1)(rs:List Str)(ws:List B1)(hg:V1 s=true)(hs:s.size≤500000)(hw:D2 (fun x:Str=>x.length) rs+D2 B1.size ws≤500000)(hwa:adj X6 ws=true):D6 307 [AV.agg s.cs,strs rs,AV.list 3 (ws.map B1.cs)] (AV.bool (fits s rs ws)):=by
 have g:=AH7.1 hg;obtain⟨hs1,hs2,hs3,hs4,hs5⟩:=AB6 hs;have hwl:=M7 (f:=B1.size) (l:=ws);have hl9:(⟨0,0,0,rs,ws⟩:E0).Writes.length≤4611686018427387903:=by show ws.length≤_;omega
 have ha9:adj X6 (⟨0,0,0,rs,ws⟩:E0).Writes=true:=hwa;have hpre:∀k∈s.Held,adj X6 k.Writes=true∧k.Writes.length≤4611686018427387903:=fun k hk=>by
  obtain⟨i,hi⟩:=i5 hk;have:=AM0 hs2 hi;exact⟨BS4 (g.good k hk).1,by omega⟩
 have hany:(s.Held.any fun k=>Aq4 ⟨0,0,0,rs,ws⟩ k)= !(s.Held.all fun k=>apart k rs ws):=by
  rw[List.not_all_eq_any_not];congr 1;funext k;rw[BY7]
 have hsz:D2 E0.size (s.Held++[⟨0,0,0,rs,ws⟩])≤1048576:=by
  rw[An2,i4];show _+(1+(D2 (fun x:Str=>x.length) rs+D2 B1.size ws)+0)≤_
  omega
 refine B0 func307 rfl ntmps307 rfl ?_;refine R3 ?_;intro b3;refine R8 ?_;intro b7;refine R4 ?_;refine H3 (show _=[Own.box b7 144 (E0.cs ⟨0,0,0,rs,ws⟩),Own.box b3 64 s.cs]from rfl) ?_;refine R3 ?_;refine A1 rfl (Ag8 rfl rfl G6) ?_;refine A1 rfl (n2 rfl call296 rfl (Aw5 s.Held (fun g=>adj X6 g.Writes=true∧g.Writes.length≤4611686018427387903) (fun k=>Aq4 ⟨0,0,0,rs,ws⟩ k) hpre) (T9 _) (N7 (evb zA) (N7 (AC7 (AV7 0 zA rfl) (AL4 call345 (fun g hg=>DR5 _ g X9 AI6 hg))) o8))) ?_;refine zC ?_ ?_
 ·intro h14;refine R5 ?_;exact D1 rfl (A5 rfl qz121)
 intro h14;refine R2 ?_;refine P1 _ [(0,false),(1,false),(2,false),(4,false),(5,false),(3,true),(6,true)] E3 E3 rfl AZ1 ?_;refine R5 ?_;refine U2 rfl rfl rfl (S9 [] rfl call346 rfl (CT2 _ X9) (A2 (A0 rfl) A9) rfl) (fun a _=>qz3) ?_;intro x18 ok18;refine U2 rfl rfl rfl (N3 (by':=72) 2 rfl H1 type144 rfl rfl rfl rfl rfl rfl zA zA rfl qz1) (fun a _=>qz3) ?_;intro v21_1 _;refine R1 ?_;refine A1 rfl (n2 rfl call300 rfl (room_app s _ s.Held rs ws (by rw[Y3];rfl) g.cells qz7 hsz) (T9 _) (N7 (evb (A0 rfl)) (N7 (BQ1 2 (A0 rfl) rfl) o8))) ?_;refine R3 ?_;exact D1 rfl (A5 rfl qz121)
theorem DD6 (s:E1)(r:N5)(hg:V1 s=true)(hr:T8 r=true)(hs:s.size≤400000):M0 257 [AV.agg s.cs,AV.agg r.cs] [] (fun _:Value×Value=>True) (fun x=>E1.ow (AR3 s r).1 x) (fun x=>AV.tup [AV.agg (E1.ocs (AR3 s r).1 x),AV.bool (AR3 s r).2]):=by
 have g:=AH7.1 hg;have hgc:=g.cells;have hsr:=g.hsort;have htr:=g.tsort;obtain⟨hs1,hs2,hs3,hs4,hs5⟩:=AB6 hs;have hrs:=AY4 hr;have hrs2:r.size=D2 (fun x:Str=>x.length) r.Reads+D2 B1.size r.Writes:=rfl;have hple:=DL4 s.Held r.Txn;refine C8 func257 rfl ntmps257 rfl ?_;refine R3 ?_;intro b2;refine R1 ?_;intro b3;refine R1 ?_;intro b4;refine zC ?_ ?_
 ·intro h14;have hk:r.Kind=4:=by simpa using h14
  refine zK ?_ ?_
  ·intro h19 k19;have he:AR3 s r=(V0,false):=by (unfold AR3 Y2;rw[D9 hk,D0 AL1])
   rw[he];exact zq49
  intro h19 k19;have he:AR3 s r=(⟨r.Time,s.Cells,s.Held,s.Told⟩,true):=by (unfold AR3 Y2;rw[D9 hk,D9 AL1])
  rw[he];refine R4 ?_;refine zI [] rfl call305 (BL2 s qz7) G6 rfl ?_;intro x22 ok22;refine R1 ?_;intro b6;refine R3 ?_;refine H3 Ab1 ?_;refine R7 ?_;refine H3 Ab1 ?_;refine R6 ?_;exact I9 [1,1] (x22.1,x22.2) (trivial) rfl B7 (j6 rfl E5 (G0 (F5 (ys:=_) 3 rfl rfl S5 K8 rfl) V6))
 intro h14;have hk4:r.Kind≠4:=by simpa using h14
 refine R7 ?_;refine zF rfl call146 (Bl1 s r.Txn qz7) F3 ?_;refine zC ?_ ?_
 ·intro h34;have hT:AU2 s.Told r.Txn=true:=by (rw[←Bc3 htr];exact h34)
  have he:AR3 s r=(V0,false):=by (unfold AR3 Y2;rw[D0 hk4,D9 hT];rfl)
  rw[he];exact zq49
 intro h34;have hT:AU2 s.Told r.Txn=false:=by (rw[←Bc3 htr];exact h34)
 refine zC ?_ ?_
 ·intro h38;have hk1:r.Kind≠1:=by simpa using h38
  rw[appR_dec hk4 hT hk1];refine R4 ?_;refine zI [] rfl call306 (DD3 s r hgc hsr htr hT qz7) F3 rfl ?_;intro x41 ok41;refine R6 ?_;exact I9 [0,0] (x41.1,x41.2) (trivial) rfl B7 (j6 rfl E5 (G0 (F5 (ys:=_) 2 rfl rfl S5 K8 rfl) V6))
 intro h38;have hk1:r.Kind=1:=by simpa using h38
 have hwa:adj X6 r.Writes=true:=by (rw[←Cq4 hr hk1]at hr;exact BS4 hr)
 refine R6 ?_;refine zF rfl call76 (At7 s r.Txn qz7) F3 ?_;refine R23 ?_;refine S0 rfl (fun hc=>zG rfl call307 (Dc3 s r.Reads r.Writes hg qz7 qz7 hwa) zS) ?_;refine zC ?_ ?_
 ·intro h67;have he:AR3 s r=(V0,false):=by (unfold AR3 Y2;rw[D0 hk4,D0 (show ¬AU2 s.Told r.Txn=true by rw[hT];decide),D9 hk1,D0 (by rw[←Ap6 hsr];intro h;simp only[F0,n5,H6]at h;rw[h.1.1,h.2,AC1 qz7]at h67;simp at h67)])
  rw[he];exact zq49
 intro h67;simp only[v9,AD1,AB8]at h67;obtain⟨⟨q1,q2⟩,q3⟩:=h67;have he:AR3 s r=(⟨r.Time,s.Cells,Ac2 (hOf r) s.Held,s.Told⟩,true):=by (unfold AR3 Y2;rw[D0 hk4,D0 (show ¬AU2 s.Told r.Txn=true by rw[hT];decide),D9 hk1,D9 (by rw[←Ap6 hsr,q1,q3,W6 (show s.Floor<r.Time by omega)];rfl)])
 have hins:Ac2 (hOf r) s.Held=s.Held.take (Ak0 s.Held r.Txn)++hOf r::s.Held.drop (Ak0 s.Held r.Txn):=insH_pos (h:=hOf r) hsr q1;rw[he,hins];refine R4 ?_;refine zI [] rfl call305 (BL2 s qz7) G6 rfl ?_;intro x70 ok70;refine R1 ?_;intro b11;refine R3 ?_;refine H3 Ab1 ?_;refine zL [0,3] ?_;refine P1 _ [(0,false),(1,false),(2,false),(3,false),(4,false),(5,true),(6,true)] E3 E3 rfl (U8 2) ?_;refine R4 ?_;refine N0 rfl rfl rfl (fun ext=>zG rfl call309 (Bz2 r qz7) G6) ?_;refine U2 rfl rfl rfl (Ay1 rfl H1 O0 zeroValue144 rfl rfl rfl rfl (B6 zA (e6 _) N6) rfl rfl) (fun a _=>qz3) ?_;intro v76 _;refine U2 rfl rfl rfl (S9 [2,5] rfl call308 rfl (CT4 _ _ s.Held (hOf r) (Ak0 s.Held r.Txn) hple qz7) (A2 (A0 rfl) (A2 (A0 rfl) (A2 (A0 rfl) A9))) rfl) (fun a _=>qz3) ?_;intro x77 ok77;refine R2 ?_;refine O7 5 rfl fun one_x77=> ?_;refine N2 0 rfl rfl rfl zA zA (F6 one_x77) rfl AM9 rfl ?_;refine R2 ?_;refine H3 Ab1 ?_;refine R7 ?_;refine H3 Ab1 ?_;refine R6 ?_;exact I9 [5,2] (x77,x70.2) (trivial) rfl B7 (j6 rfl E5 (G0 (F5 (ys:=_) 3 rfl rfl S5 K8 rfl) V6))
theorem Ct4 (s:E1)(r:N5)(hg:V1 s=true)(hr:T8 r=true)(hs:s.size≤400000):D6 257 [AV.agg s.cs,AV.agg r.cs] (AV.tup [AV.agg (AR3 s r).1.cs,AV.bool (AR3 s r).2]):=
  J5 (DD6 s r hg hr hs) fun x _=>AQ7 (D7 (AO7 (E1.lc _ x)) (D7 H9 Z6))
theorem DD7 (l:List N5)(hg:∀r∈l,T8 r=true)(hl:l.length≤60):M0 207 [AV.list 7 (l.map N5.cs)] [] (fun _:Value=>True) (fun x=>[.arr x 4 1 ((Ae8 V0 l).map fun b=>[AV.bool b])]) (fun x=>AV.tup [AV.agg (Z2 V0 l).cs,AV.is x]):=by
 have hgs:∀i,GS (Z2 V0 (l.take i)):=fun i=>CS6 BQ2 fun r hr=>hg r (AZ9 hr);have hsz:∀i,(Z2 V0 (l.take i)).size≤400000:=fun i=>by
  have h1:=Ct2 (Z2 V0 (l.take i));have h2:=CE1 (m:=400) (s:=V0) (l:=l.take i) fun r hr=>AY4 (hg r (AZ9 hr));have h3:phi V0=0:=rfl;have h4:(l.take i).length≤60:=by rw[H0];omega
  omega
 refine C8 func207 rfl ntmps207 rfl ?_;refine R3 ?_;intro b2;refine zq88 ?_;refine R5 ?_;intro b4;refine R3 ?_;refine AWP.le (Ap1 0 1 2 rfl rfl M6) ?_;refine AWP.le (Ap1 0 2 5 rfl rfl M6) ?_;refine AWP.le (Ap1 0 3 3 rfl rfl M6) ?_;refine R1 ?_;refine S3 rfl rfl rfl rfl AE7 j3 ?_;intro v11;refine R10 ?_;refine zL [1,0] ?_;refine W1 [(2,_),(3,_),(4,_),(12,_),(13,_)] _ (fun (i:Nat) (v:Value) (bs:List Bool)=>i≤l.length∧bs=Ae8 V0 (l.take i)∧bs.length≤i) (fun i v bs=>[.box b4 64 (Z2 V0 (l.take i)).cs,.arr v 4 1 (bs.map fun b=>[AV.bool b])]) (fun i v bs=>[(5,AV.is v),(14,AV.int i)]) (fun i v bs=>l.length-i) (0) (v11) ([]) ?_ (I1 B7 A6) ?_
 ·exact⟨E4 _,rfl,K9 _⟩
 intro i v bs hinv;refine zK ?_ ?_
 ·intro h15 k15;have hlt:i<l.length:=by omega
  obtain⟨r,hx⟩:=B2 hlt;have hgr:=hg r (C3 hx);have hgi:=AH7.2 (hgs i);have hsi:=hsz i;have hst:=Dc1 (Z2 V0 (l.take i)) r;refine R5 ?_;refine A1 rfl (C2 rfl AN6 y9 zA zA hx qz1) ?_;refine R2 ?_;intro b7;refine R6 ?_;refine zF rfl call257 (Ct4 (Z2 V0 (l.take i)) r hgi hgr hsi) F3 ?_;refine R4 ?_;intro b8;refine zC ?_ ?_
  ·intro h24;have hstep:(AR3 (Z2 V0 (l.take i)) r).1=AK9 (Z2 V0 (l.take i)) r:=by (rw[←hst,D9 h24])
   refine R8 ?_;refine zq87 ?_;intro v29_1;refine R6 ?_;refine Q8 i v bs (i+1) (v29_1) (bs++[(AR3 (Z2 V0 (l.take i)) r).2]) ?_ ?_ (Le.trans (B4 [0,0,0,0] rfl) (D5 2 Ck9 A6))
   ·exact⟨by omega,by rw[Az5 hx,hinv.2.1,(DL6 _ _).1],by rw[I2];simp;omega⟩
   omega
  intro h24;have hstep:Z2 V0 (l.take i)=AK9 (Z2 V0 (l.take i)) r:=by (conv=>rhs;rw[←hst,D0 (by rw[h24];decide)])
  refine R5 ?_;refine zq87 ?_;intro v29_2;refine R6 ?_;refine Q8 i v bs (i+1) (v29_2) (bs++[(AR3 (Z2 V0 (l.take i)) r).2]) ?_ ?_ (Le.trans (B4 [0,0,0,0] rfl) (D5 2 Ck9 A6))
  ·exact⟨by omega,by rw[Az5 hx,hinv.2.1,(DL6 _ _).1],by rw[I2];simp;omega⟩
  omega
 intro h15 k15;have hge:i=l.length:=by omega
 have hbs:=hinv.2.1;rw[hge,AO5]at hbs;rw[hge,AO5,←hbs];exact zq210
theorem BN9 (l:List Str)(hl:l.length≤4194304):M0 48 [strs l] [] (fun _:Value=>True) (fun v=>[.arr v 9 1 (l.map fun s=>[AV.str s])]) (fun v=>AV.is v):=by
  refine C8 func48 rfl ntmps48 rfl ?_;refine zq149 ?_;refine S3 rfl rfl rfl rfl E2 I6 ?_;intro v3;refine R1 ?_;refine I0 (by':=16) 0 rfl rfl rfl rfl E2 type9 rfl rfl rfl rfl rfl rfl zA zA rfl Be4 ?_;intro v5_1;refine R3 ?_;exact I9 [0] v5_1 (trivial) rfl B7 Q4
theorem Ah5 (v:Value)(l:List Str)(s:Str)(hs:AP2 l)(hl:l.length≤1000000):M0 105 [AV.is v,AV.str s] [.arr v 9 1 (l.map fun s=>[AV.str s])] (fun _:Value=>True) (fun v'=>[.arr v' 9 1 ((AE9 l s).map fun s=>[AV.str s])]) (fun v'=>AV.is v'):=by
 refine C8 func105 rfl ntmps105 rfl ?_;refine zq10 ?_;refine R9 ?_;refine E8 [(0,_),(1,_),(4,_)] _ (fun (k:Nat)=>k≤l.length∧∀i y,k≤i→l[i]? =some y→Op.bytesLess s y=true) (fun k=>[]) (fun k=>[(5,AV.int k)]) (fun k=>k) (l.length) ?_ (G2 ⟨F2 (fun z=>some (AV.int z)) (by rw[A8]),rfl,rfl,rfl,trivial⟩) ?_
 ·exact⟨K9 _,fun i y h1 h2=>by (have:=(G1.1 h2).1;omega)⟩
 intro k hinv;obtain⟨y,hy0⟩:∃y,0<k→l[k-1]? =some y:=by (by_cases h9:0<k;(have h8:=hinv.1;exact⟨_,fun _=>Q5 (show k-1<l.length by omega)⟩);exact⟨[],fun h8=>absurd h8 h9⟩)
 refine R9 ?_;refine L5 rfl (fun hc=>I4 0 rfl E2 I6 (A7 rfl hc) rfl (A7 rfl hc) Be1 (by have:=AB7 hc;have:=hinv.1;simp only[A8];omega)) ?_;refine L5 rfl (fun hc=>AC8 0 rfl (A7 rfl hc) rfl u3 (BS3 (hy0 Be1) Be1)) ?_;refine R1 ?_;refine L5 rfl (fun hc=>CG9 rfl (A7 rfl hc) (A7 rfl hc)) ?_;refine zC ?_ ?_
 ·intro h19;have hkt:0<k∧Op.bytesLess s y=true:=by (rw[Ba7]at h19;simpa using h19)
  refine R7 ?_;refine Al8 ?_;refine F1 k (k-1) ?_ ?_ (G2 ⟨F2 (fun z=>some (AV.int z)) qz7,rfl,rfl,rfl,trivial⟩)
  ·exact zq117
  omega
 intro h19;have hng:0<k→Op.bytesLess s y=false:=fun h=>by (rw[Ba7]at h19;simpa [h]using h19)
 refine R10 ?_;refine L5 rfl (fun hc=>I4 0 rfl E2 I6 (A7 rfl hc) rfl (A7 rfl hc) Be1 (by have:=AB7 hc;have:=hinv.1;simp only[A8];omega)) ?_;refine L5 rfl (fun hc=>AC8 0 rfl (A7 rfl hc) rfl u3 (BS3 (hy0 Be1) Be1)) ?_;refine zC ?_ ?_
 ·intro h32;have hke:0<k∧y=s:=by simpa using h32
  rw[CI2 hs (by rw[←hke.2];exact hy0 hke.1)];refine R6 ?_;exact I9 [0] v (trivial) rfl qz110 (O2 rfl (A5 rfl B7))
 intro h32;have hne:0<k→y≠s:=fun h e=>by simp[h,e]at h32
 rw[CZ9 hs hinv.1 hinv.2 (fun z hz hzz=>by rw[hy0 hz]at hzz;injection hzz with hzz;subst hzz;exact⟨hng hz,hne hz⟩)];refine R5 ?_;refine A1 rfl (BN0 0 rfl E2 I6 zA rfl zA qz7 AE8) ?_;refine CY1 [] rfl rfl rfl rfl call48 rfl (BN9 (l.drop k) (by rw[AB9];omega)) rfl (N7 (Ai1 zA (lt_tailm (C3 (i:=0) rfl) qz7 qz7)) o8) qz4 qz4 qz4 ?_;intro x37 ok37;refine R3 ?_;refine AWP.le (AI8 [0] 6 rfl rfl (K2 (C3 (i:=0) rfl) G3) (AB1 0 rfl rfl M6)) ?_;refine R3 ?_;refine Co1 0 rfl rfl rfl rfl E2 I6 zA rfl zA qz7 AE8 ?_;intro v40_1;rw[o5,←List.map_take];refine CY1 [] rfl rfl rfl rfl call48 rfl (BN9 (l.take k) CG0) rfl (N7 (BQ1 0 zA rfl) o8) qz4 qz4 qz4 ?_;intro x41 ok41;refine R2 ?_;refine I0 (by':=16) 0 rfl rfl rfl rfl E2 type9 rfl rfl rfl rfl rfl rfl zA zA rfl Be7 ?_;intro v44_2;refine R1 ?_;refine I0 (by':=16) 0 rfl rfl rfl rfl E2 type9 rfl rfl rfl rfl rfl rfl zA zA rfl (by simp only[A8,H0,AB9,I2,X4];omega) ?_;intro v46_3;refine R3 ?_;exact I9 [0] v46_3 (trivial) rfl qz110 (O2 rfl (A5 rfl B7))
theorem Ct5 (r:List Str)(w:List B1)(hr:r.length≤400000)(hw:w.length≤400000):M0 163 [strs r,AV.list 3 (w.map B1.cs)] [] (fun _:Value=>True) (fun v=>[.arr v 9 1 ((AG0 (r++O8 w) []).map fun s=>[AV.str s])]) (fun v=>AV.is v):=by
 refine C8 func163 rfl ntmps163 rfl ?_;refine zq149 ?_;refine n1 9 1 rfl rfl rfl rfl L2 ?_;intro v5;refine R9 ?_;refine K5 [(1,_),(4,_),(10,_),(11,_)] _ (fun (i:Nat) (v:Value)=>i≤r.length) (fun i v=>[.arr v 9 1 ((AG0 (r.take i) []).map fun s=>[AV.str s])]) (fun i v=>[(5,AV.is v),(12,AV.int i)]) (fun i v=>r.length-i) (0) (v5) ?_ (I1 B7 A6) ?_
 ·exact E4 _
 intro i v hinv;refine zK ?_ ?_
 ·intro h13 k13;have hlt:i<r.length:=by omega
  obtain⟨x,hx⟩:=B2 hlt;have hpl:=Ar5 (r.take i) [];rw[H0]at hpl;refine zq72 ?_;refine R6 ?_;refine zI [0] rfl call105 (Ah5 v (AG0 (r.take i) []) x (Aj4 List.Pairwise.nil).1 (by simp only[T5]at hpl;omega)) F3 rfl ?_;intro x18 ok18;refine R6 ?_;refine H5 i v (i+1) (x18) ?_ ?_ (I1 (by exact F2 (fun z=>[Own.arr _ 9 1 (List.map (fun s=>[AV.str s]) z)]) (by rw[X3,hx];exact(Ay6 _ _ _).symm)) A6)
  ·omega
  omega
 intro h13 k13;have hge:i=r.length:=by omega
 rw[hge,AO5];refine R9 ?_;refine K5 [(4,_),(20,_),(21,_)] _ (fun (j:Nat) (u:Value)=>j≤w.length) (fun j u=>[.arr u 9 1 ((AG0 (r++O8 (w.take j)) []).map fun s=>[AV.str s])]) (fun j u=>[(5,AV.is u),(22,AV.int j)]) (fun j u=>w.length-j) (0) (v) ?_ (I1 (by (show [_]=[_];simp[O8])) A6) ?_
 ·exact E4 _
 intro j u hinv;refine zK ?_ ?_
 ·intro h23 k23;have hlt:j<w.length:=by omega
  obtain⟨x,hx⟩:=B2 hlt;have hpl:=Ar5 (r++O8 (w.take j)) [];simp only[I2,O8,A8,H0,T5]at hpl;refine zq62 ?_;intro b9;refine R6 ?_;refine zI [1] rfl call105 (Ah5 u (AG0 (r++O8 (w.take j)) []) x.Key (Aj4 List.Pairwise.nil).1 (by simp only[O8]at hpl⊢;omega)) F3 rfl ?_;intro x29 ok29;refine R6 ?_;refine H5 j u (j+1) (x29) ?_ ?_ (Le.trans (B4 [1,0] rfl) (D5 1 (by exact F2 (fun z=>[Own.arr _ 9 1 (List.map (fun s=>[AV.str s]) z)]) (by rw[X3,hx];simp only[O8,Y3,←o7];exact(Ay6 _ _ _).symm)) A6))
  ·omega
  omega
 intro h23 k23;have hge:j=w.length:=by omega
 rw[hge,AO5];refine R7 ?_;exact I9 [0] u (trivial) rfl B7 Q4
end Go.PQ