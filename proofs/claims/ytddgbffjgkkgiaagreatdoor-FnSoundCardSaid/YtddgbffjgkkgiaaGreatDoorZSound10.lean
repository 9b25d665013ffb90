/- Texts of the claim, part 10. -/
import Derived.Test.YtddgbffjgkkgiaaGreatDoorZSound9
set_option linter.defProp false
set_option linter.unusedVariables false
set_option linter.unusedSimpArgs false
set_option maxRecDepth 100000
set_option maxHeartbeats 4000000
namespace Go.M
open Go.AV
def Bu0 (l:List Str):Bool:=(l.all y7&&adj Op.bytesLess l)&&within (l.length:Int) 1 8
theorem l16K_of {l:List Str}(h0:1≤l.length∧l.length≤8)(hk:∀k∈l,k∈AI5)(hs:AP2 l):Bu0 l=true:=by
  unfold Bu0 within
  rw[W6 qz7,W6 qz7,F0,F0];refine⟨⟨V7.2 fun k h=>by rw[←AK7];exact(AL9 (hk k h)).1,?_⟩,rfl⟩;have h1:=Cd8 (fun k h=>(AL9 (hk k h)).1) hs;unfold u4 at h1;simp only[F0]at h1;exact h1.2
theorem nG0_wg :WG nG0:=by
  refine⟨o9.1 E5,rfl,fun h=> ?_,fun r hr e he=> ?_⟩
  ·exact absurd h E5
  · have:∀r∈nG0.Reps,r.Log=[]:=by decide
    rw[this r hr]at he;cases he
theorem CM4 {n:Nat}{ls:List (List Str)}{i:Nat}{l:List Str}(h:ls[i]? =some l):(AX4 n ls ls.length)[i]? =some (BP8 n i l):=by
  have hi:=(G1.1 h).1;unfold AX4;rw[a8,List.getElem?_range hi];show some (BP8 n i (ls.getD i []))=_
  rw[show ls.getD i []=l by rw[List.getD_eq_getElem?_getD,h];rfl]
def BF3 (cuts:List Str)(ps:List (List TOp))(ls:List (List Str)):C7:=
  ⟨0,0,List.replicate (3*(cuts.length+1)) ⟨0⟩,cuts,List.replicate (cuts.length+1) nG0,List.replicate (cuts.length+1) [],List.replicate (cuts.length+1) 0,ps.map (BF1 (cuts.length+1)),AX4 (cuts.length+1) ls ls.length⟩
structure BC1 (cuts:List Str)(ps:List (List TOp))(ls:List (List Str)):Prop where
  cuts:AB2 cuts=true∧cuts.length≤2∧∀k∈cuts,k.length≤12
  ps:ps.length≤5∧∀p∈ps,n8 p=true∧∀o∈p,o.Key∈AI5
  ls:ls.length≤4∧∀l∈ls,(1≤l.length∧l.length≤8)∧AP2 l∧∀k∈l,k∈AI5
theorem BC1.wi {cuts:List Str}{ps:List (List TOp)}{ls:List (List Str)}(h:BC1 cuts ps ls):WI (BF3 cuts ps ls) where
  n:=by have:=h.cuts.2.1;unfold BF3;dsimp only;rw[w3];omega
  clocks:=⟨by unfold BF3;dsimp only;rw[w3,w3],fun c hc=>by rw[(AE0.1 hc).2];decide⟩
  cuts:=⟨by unfold BF3;dsimp only;rw[w3],h.cuts.2.2⟩
  locks:=⟨by unfold BF3;dsimp only;rw[w3,w3],fun l hl=>by rw[(AE0.1 hl).2];exact⟨E4 _,fun x hx=>by cases hx⟩⟩
  promised:=⟨by unfold BF3;dsimp only;rw[w3,w3],fun p hp=>by rw[(AE0.1 hp).2];decide⟩
  groups:=fun g hg=>by rw[(AE0.1 hg).2];exact nG0_wg
  txns:=⟨by unfold BF3;dsimp only;rw[A8];have:=h.ps.1;omega,fun t ht=>by
    obtain⟨p,hp,rfl⟩:=n6.1 ht;refine⟨?_,h.ps.2 p hp,⟨E4 _,fun g hg=>by cases hg⟩,⟨show (-1:Int)≤0 by decide,.inl rfl⟩⟩;show (List.replicate (cuts.length+1) (0:Int)).length=(List.replicate (cuts.length+1) nG0).length
    rw[w3,w3]⟩
  looks:=⟨by unfold BF3 AX4;dsimp only;rw[A8,List.length_range];exact h.ls.1,fun l hl=>by
    obtain⟨k,hk,rfl⟩:=n6.1 hl;have hkl:=List.mem_range.1 hk;obtain⟨q,hq⟩:=B2 hkl;have hd:ls.getD k []=q:=by rw[List.getD_eq_getElem?_getD,hq];rfl
    have hq9:=h.ls.2 q (C3 hq);show LkOk (List.replicate (cuts.length+1) nG0).length _ (BP8 (cuts.length+1) k (ls.getD k []))
    rw[hd,w3];refine⟨(show 0≤Int.tmod (k:Int) (3*((cuts.length+1:Nat):Int))∧Int.tmod (k:Int) (3*((cuts.length+1:Nat):Int))<3*((cuts.length+1:Nat):Int)from⟨Int.tmod_nonneg _ qz7,Int.tmod_lt_of_pos _ qz7⟩),⟨hq9.1.2,fun x hx=>by have:=(AL9 (hq9.2.2 x hx)).2;omega⟩,⟨E4 _,fun g hg=>by cases hg⟩,⟨show (-1:Int)≤0 by decide,.inl rfl⟩,show (0:Int)≤0∧(0:Int)≤1000000 by decide⟩⟩
  now:=show (0:Int)≤0∧(0:Int)≤100000 by decide
  count:=show (0:Int)≤0∧(0:Int)≤1000000 by decide
theorem newW_wq (cuts:List Str)(ps:List (List TOp))(ls:List (List Str)):∀v:C7,v.Txns=(BF3 cuts ps ls).Txns→v.Looks=(BF3 cuts ps ls).Looks→v.Count=0→WQ v:=fun v h1 h2 h3=>⟨fun t ht=>by
    rw[h1]at ht;obtain⟨p,hp,rfl⟩:=n6.1 ht;rw[h3];exact(show (-1:Int)<0 by decide),fun l hl=>by
    rw[h2]at hl;obtain⟨k,hk,rfl⟩:=n6.1 hl;rw[h3];exact(show (-1:Int)<0 by decide)⟩
theorem Av3 {α β:Type}{c:α→β}{n:Nat}{x:α}:(List.replicate n x).map c=List.replicate n (c x):=List.map_replicate ..
theorem DM5 {own:List Go.AV.Own}(n:Nat):BO8 own (List.replicate n [AV.nils]) ((List.replicate n ([]:List G9)).map fun l=>[AV.list 3 (l.map G9.cs)]):=by
  refine⟨by simp,fun i e f h k=> ?_⟩;rw[List.getElem?_replicate]at h;rw[a8,List.getElem?_replicate]at k;split at h
  · rename_i hlt
    rw[D9 hlt]at k;injection h with h;injection k with k;subst h;subst k
    exact D7 BC8 Z6
  ·cases h
structure WZ (w:C7):Prop where
  groups:w.Groups.length≤3∧∀g∈w.Groups,g.size≤1048576∧AQ4 Ai7 g
  cuts:w.Cuts.length≤2∧∀k∈w.Cuts,k.length≤12
  clocks:w.Clocks.length≤9
  locks:w.Locks.length≤3∧∀l∈w.Locks,D2 G9.size l≤1048576
  promised:w.Promised.length≤3
  txns:w.Txns.length≤6∧∀t∈w.Txns,D2 TOp.size t.Ops≤1048576∧D2 H7.size t.Got≤1048576
  looks:w.Looks.length≤4∧∀l∈w.Looks,(∀k∈l.Keys,k.length≤12)∧D2 H7.size l.Got≤1048576
  ends:(∀t∈w.Txns,t.End= -1∨t.Begin<t.End)∧∀l∈w.Looks,l.End= -1∨l.Begin<l.End
theorem DH0 (l:List Str):AP4 l=Bu0 l:=by
  unfold AP4 Bu0 u4;rw[show (l.all z7)=l.all y7 from by congr 1;funext s;exact AK7 s,Bool.and_comm]
theorem Cm0 {l:List Str}(h:∀k∈l,k.length≤12):∀k∈l,k.length≤4611686018427387904:=fun k hk=>L7 (h k hk) E5
theorem DV6 {α:Type}{l:List α}{i:Nat}{x y:α}(hx:l[i]? =some x)(hy:y∈l.take (i+1)):y∈l.take i∨y=x:=by
  rw[X3,hx]at hy;rcases y6.1 hy with h|h
  ·exact .inl h
  ·exact .inr Ag3
theorem BJ6 {α:Type}{P:α→Prop}{l:List α}{i:Nat}{x:α}(hx:l[i]? =some x)(h:∀y∈l.take i,P y)(hp:P x):∀y∈l.take (i+1),P y:=fun y hy=>by
  rcases DV6 hx hy with h1|rfl
  ·exact h y h1
  ·exact hp
theorem Ao1 {α:Type}{P:α→Prop}{l:List α}{i:Nat}(hi:l.length≤i)(h:∀y∈l.take i,P y):∀y∈l,P y:=by rwa [S7 hi]at h
theorem At8 {l:List H7}{ks:List Str}(hl:l.length≤ks.length):AV0 l ks=true↔∀(i:Nat) (g:H7) (k:Str),l[i]? =some g→ks[i]? =some k→g.Key=k:=by
  unfold AV0;rw[V7];constructor
  · intro h i g k hg hk
    have:=h i (List.mem_range.2 (G1.1 hg).1);rw[hg,hk]at this;simpa using this
  · intro h i hi
    have hi:=List.mem_range.1 hi;obtain⟨g,hg⟩:=B2 hi;obtain⟨k,hk⟩:=B2 (show i<ks.length by omega);rw[hg,hk];simpa using h i g k hg hk
def GWP (w:C7):Prop:=AJ2 w=true∧((∀g∈w.Groups,P0 g=true∧g.Reps.length=3)∧(∀l∈w.Locks,AU9 l=true)∧∀p∈w.Promised,o0 p=true)∧((o0 w.Now=true∧within w.Count 0 1000000=true)∧w.Txns.length≤6∧w.Looks.length≤4)∧(∀c∈w.Clocks,AA2 c=true)∧(∀t∈w.Txns,AA4 w t=true)∧∀l∈w.Looks,o4 w l=true
theorem At9 {w:C7}:Z4 w=true↔GWP w:=by
  unfold Z4 GWP AA2;simp only[F0,V7,H6,m6];constructor
  · rintro ⟨⟨⟨⟨⟨⟨⟨⟨⟨h1,h2⟩,h3⟩,h4⟩,h5⟩,h6⟩,h7,h8⟩,h9⟩,h10⟩,h11⟩
    exact⟨h1,⟨fun g hg=>⟨(h2 g hg).1,by have:=(h2 g hg).2;omega⟩,h3,h4⟩,⟨⟨h5,h6⟩,by omega,by omega⟩,h9,h10,h11⟩
  · rintro ⟨h1,⟨h2,h3,h4⟩,⟨⟨h5,h6⟩,h7,h8⟩,h9,h10,h11⟩
    exact⟨⟨⟨⟨⟨⟨⟨⟨⟨h1,fun g hg=>⟨(h2 g hg).1,by have:=(h2 g hg).2;omega⟩⟩,h3⟩,h4⟩,h5⟩,h6⟩,by omega,by omega⟩,h9⟩,h10⟩,h11⟩
theorem Bj2 {w:C7}(h:¬GWP w):Z4 w=false:=by rw[←Bool.not_eq_true,At9];exact h
theorem Bj3 {α:Type}{p q:α→Bool}(hq:∀x,q x= !p x)(l:List α):(!l.any q)=l.all p:=by
  rw[List.not_any_eq_all_not];congr 1;funext x;rw[hq,Bool.not_not]
theorem DV7 (a b:F4):((a.Term==b.Term)&&decide (a.Rec=b.Rec))=decide (a=b):=by
  cases a;cases b
  rw[AI1];simp only[F0,m6,H6,F4.mk.injEq]
theorem AU8 {α:Type}{p:α→Bool}{l:List α}{i:Nat}{x:α}(hx:l[i]? =some x)(h:(l.take i).all p=true)(hp:p x=true):(l.take (i+1)).all p=true:=by
  rw[X3,hx,List.all_append,h];simp[hp]
theorem Ap8 {α:Type}{p:α→Bool}{l:List α}{i:Nat}{x:α}(hx:l[i]? =some x)(hp:p x=false):l.all p=false:=by
  cases h:l.all p with
  |false=>rfl
  |true=>rw[V7.1 h x (C3 hx)]at hp;cases hp
def BU2 (a b:D8):Bool:=AQ5 (AN3 a) (AN3 b)||AQ5 (AN3 b) (AN3 a)
def As8 (g:C1)(a:D8):Bool:=(g.Reps.all fun b=>BU2 a b)&&(decide (g.Lead<0)||AQ5 (M3 g g.Lead).Log (AN3 a))
def BK4 (a b:D8):Bool:=AC4 a.Log b.Log (min a.Sure b.Sure).toNat
def As9 (g:C1)(a:D8):Bool:=(g.Reps.all fun b=>BK4 a b)&&(decide (g.Lead<0)||AC4 (M3 g g.Lead).Log a.Log a.Sure.toNat)
theorem Cx8 {g:C1}{i:Nat}{a:D8}(hx:g.Reps[i]? =some a)(h:As8 g a=false):Ac7 g=false:=by
  show (P0 g&&g.Reps.all (As8 g))=false
  rw[Ap8 hx h,Bool.and_false]
theorem Df2 {g:C1}(hg:P0 g=true)(h:g.Reps.all (As8 g)=true):Ac7 g=true:=by
  show (P0 g&&g.Reps.all (As8 g))=true
  rw[hg,h];rfl
theorem Cx9 {g:C1}{i:Nat}{a:D8}(hx:g.Reps[i]? =some a)(h:As9 g a=false):Aq5 g=false:=by
  show (P0 g&&g.Reps.all (As9 g))=false
  rw[Ap8 hx h,Bool.and_false]
theorem Df3 {g:C1}(hg:P0 g=true)(h:g.Reps.all (As9 g)=true):Aq5 g=true:=by
  show (P0 g&&g.Reps.all (As9 g))=true
  rw[hg,h];rfl
theorem Cy0 {g:C1}(hg:P0 g=false):Ac7 g=false∧Aq5 g=false:=by
  unfold Ac7 Aq5;rw[hg];exact⟨rfl,rfl⟩
theorem Bj4 (a b:Int):As0 a b=min a b:=by unfold As0;split<;>omega
theorem DM6 {g:C1}{a:D8}{e:F4}(hs:g.size≤1048576)(ha:a∈g.Reps)(he:e∈a.Log):e.size≤1048576:=
  L7 (Af8 (f:=F4.size) he) (L7 (Af8 (f:=D8.size) ha) hs)
theorem Df4 {buf:List B1}{got:List H7}{k:Str}{w:B1}(ha:adj X6 buf=true)(hw:buf[Ae7 buf k]? =some w)(hk:w.Key=k):C9 buf got k=(w.Val,!w.Gone,true):=by
  have h:=Da4 ha (C3 hw);rw[hk]at h;unfold lookW at h;unfold C9;rw[h]
theorem DV8 {buf:List B1}{k:Str}(ha:adj X6 buf=true)(h:BE6 buf k=false):buf.find? (fun w=>w.Key==k)=none:=by
  cases hl:buf.find? (fun w=>w.Key==k)with
  |none=>rfl
  | some w=>
    have h1:=CI8 (l:=buf) (k:=k) hl;have h2:BE6 buf k=true:=by rw[Cb5 ha];exact Ab6.2 ⟨w,h1.1,h1.2⟩
    rw[h]at h2;cases h2
structure Alone (l:List TOp)(got:List H7):Prop where
  nd:(got.map H7.Key).Nodup
  sub:∀g∈got,g.Key∈l.map TOp.Key
  size:∀g∈got,g.size≤200
theorem Bs8 {l:List H2}{n:Int}(h:(y5 l n).2=true):(AD3 l n).toList=[(y5 l n).1]:=by
  unfold y5 at h⊢
  cases hf:AD3 l n with
  |none=>rw[hf]at h;cases h
  |some x=>rfl
theorem Cy1 {l:List H2}{n:Int}(h:(y5 l n).2=false):(AD3 l n).toList=[]:=by
  unfold y5 at h
  cases hf:AD3 l n with
  |none=>rfl
  |some x=>rw[hf]at h;cases h
theorem Bw7 {w:C7}{t:B5}(h:AA4 w t=true):CF9 t∧t.Ops.length≤8∧AN2 t.Got=true:=by
  unfold AA4 at h;simp only[F0]at h;obtain⟨⟨⟨⟨⟨⟨⟨t1,t2⟩,t3⟩,t4⟩,t5⟩,t6⟩,t7⟩,t8⟩:=h;have h8:t.Ops.length≤8:=by have h9:=t1;unfold n8 at h9;rw[F0,H6]at h9;have:=h9.1;omega
  have hg:=Cr3 t3;exact⟨⟨by omega,fun o ho=>by have h9:=AT6 t1 o ho;exact⟨L7 h9.size E5,h9.by',h9.key⟩,⟨by have:=hg.1;omega,fun g hm=>L7 (hg.2 g hm) E5⟩⟩,h8,t3⟩
theorem Ce3 {w:C7}{l:C5}(h:o4 w l=true):l.Got.length≤8:=by
  unfold o4 at h;simp only[F0]at h;obtain⟨⟨⟨⟨⟨⟨⟨l1,l2⟩,l3⟩,l4⟩,l5⟩,l6⟩,l7⟩,l8⟩:=h;exact(Cr3 l4).1
theorem BE3 {ss:List E1}{p:Nat}(h:p<ss.length):ss[p]? =some (Z5 ss p):=by
  unfold Z5;rw[Q5 h];rfl
theorem Cy2 {ss:List E1}{p:Nat}(h:p<ss.length):Z5 ss p∈ss:=C3 (BE3 h)
theorem Cy3 {cuts:List Str}{ss:List E1}{t:Int}{l:List H7}{i:Nat}{g:H7}(h:l[i]? =some g):r6 cuts ss (l.take (i+1)) t=r6 cuts ss (l.take i) t++[CP0 (Z5 ss (w4 cuts g.Key)) g.Key t]:=by
  unfold r6;rw[X3,h,Y3];rfl
theorem Df5 {l:List H2}(h:(AG4 l).2=true):(AG4 l).1=l:=by
  unfold AG4 at h⊢;split at h
  ·rename_i hc;rw[D9 hc]
  ·cases h
theorem DH1 {w:C7}{ss:List E1}{k:Nat}{t:B5}{parts:List Int}{done:Bool}(h:(AG4 (P8 ss ((k:Int)+1))).2=false):BB6 w ss k t parts done=false:=D9 h
theorem CM5 {w:C7}{ss:List E1}{k:Nat}{t:B5}{parts:List Int}{done:Bool}(h:(AG4 (P8 ss ((k:Int)+1))).2=true)(h2:((t.Put&&done)&&Aj8 (P8 ss ((k:Int)+1)))=true)(h3:AX2 ss ((k:Int)+1) parts=false):BB6 w ss k t parts done=false:=by
  unfold BB6;rw[D0 (by rw[h];decide),D9 (by rw[h2,h3];rfl)]
theorem Ce4 {w:C7}{ss:List E1}{k:Nat}{t:B5}{parts:List Int}{done:Bool}(h:(AG4 (P8 ss ((k:Int)+1))).2=true)(h2:((t.Put&&done)&&Aj8 (P8 ss ((k:Int)+1)))=false∨AX2 ss ((k:Int)+1) parts=true):BB6 w ss k t parts done=BX3 w ss k t:=by
  unfold BB6;rw[D0 (by rw[h];decide)];rcases h2 with h2|h2
  ·rw[D0 (by rw[h2];simp)]
  ·rw[D0 (by rw[h2];simp)]
theorem CM6 {l:List H2}{x:H2}(hx:0<l.length→l[0]? =some x):Aj8 l=(decide ((l.length:Int)>0)&&x.Yes):=by
  cases l with
  |nil=>rfl
  |cons y r=>have:=hx (Nat.zero_lt_succ _);injection this with this;subst this;unfold Aj8;rw[W6 (by simp only[J7];omega),Bool.true_and]
theorem Ce5 {l:List H2}{x:H2}(z:H2)(hx:0<l.length→l[0]? =some x):Bd7 l z=(decide ((l.length:Int)>0)&&decide (x=z)):=by
  cases l with
  |nil=>rfl
  |cons y r=>have:=hx (Nat.zero_lt_succ _);injection this with this;subst this;unfold Bd7;rw[W6 (by simp only[J7];omega),Bool.true_and]
theorem told_eq3 (x:H2)(a t:Int):(x.Txn==a&&(x.Yes==true&&(x.Time==t&&true)))=decide (x=⟨a,true,t⟩):=by
  cases x
  rw[AI1];simp only[F0,m6,H6,H2.mk.injEq,and_true]
theorem BZ9 (l:List H2)(n:Int):(y5 l n).2=(AD3 l n).isSome:=by unfold y5;cases AD3 l n<;>rfl
theorem DV9 (l:List E0)(n:Int):(AN4 l n).2=AO2 l n:=by
  unfold AN4 AO2
  cases h:AE1 l n with
  | none=>
    unfold AE1 at h
    symm;rw[List.any_eq_false];intro x hx;have:=List.find?_eq_none.1 h x hx;simpa using this
  | some x=>
    unfold AE1 at h
    symm;rw[List.any_eq_true];exact⟨x,Ac4 h,by simpa using List.find?_some h⟩
theorem CV4 {ss:List E1}{n:Int}{parts:List Int}{p:Int}(hp:parts[0]? =some p)(h:(AD3 (Z5 ss p.toNat).Told n).isSome=false):AX2 ss n parts=false:=by
  unfold AX2;rw[show parts.getD 0 0=p by rw[List.getD_eq_getElem?_getD,hp];rfl,h];rfl
theorem DH2 {ss:List E1}{n:Int}{parts:List Int}{i:Nat}{p:Int}(hp:parts[i]? =some p)(h:okS n (Z5 ss p.toNat)=false):AX2 ss n parts=false:=by
  have hf:(parts.all fun p=>okS n (Z5 ss p.toNat))=false:=by
    cases hb:parts.all fun p=>okS n (Z5 ss p.toNat)with
    |false=>rfl
    | true=>
      have h1:=V7.1 hb p (C3 hp);rw[h]at h1;cases h1
  unfold AX2;rw[hf,Bool.and_false]
theorem Cy4 {ss:List E1}{n:Int}{parts:List Int}{p:Int}(hp:parts[0]? =some p)(h:(AD3 (Z5 ss p.toNat).Told n).isSome=true)(ha:(parts.all fun p=>okS n (Z5 ss p.toNat))=true):AX2 ss n parts=true:=by
  unfold AX2;rw[show parts.getD 0 0=p by rw[List.getD_eq_getElem?_getD,hp];rfl,h,ha];rfl
def BP9 (w:C7)(k:Nat):Bool:=match w.Txns[k]? with|some t=>BB6 w (O6 w) k t (U7 w.Cuts t) (AK5 t)|none=>true
def BF4 (w:C7):Bool×Bool:=if Z4 w=true then (((w.Groups.all Aq5&&(List.range w.Txns.length).all (BP9 w))&&w.Looks.all fun l=>Ac6 w.Cuts (O6 w) l.Got l.Time),true)else (false,false)
theorem Bj5 {p:Nat→Bool}{i:Nat}(h:(List.range i).all p=true)(hp:p i=true):(List.range (i+1)).all p=true:=by
  rw[List.range_succ,List.all_append,h];simp[hp]
theorem CE7 {p:Nat→Bool}{n i:Nat}(hi:i<n)(hp:p i=false):(List.range n).all p=false:=by
  cases h:(List.range n).all p with
  |false=>rfl
  |true=>rw[V7.1 h i (List.mem_range.2 hi)]at hp;cases hp
theorem txn_sb {w:C7}{t:B5}(h:AA4 w t=true):(P2 t.Ops t.Got).2.2.length≤1000∧(0≤t.Time∧t.Time≤100000):=by
  refine⟨?_,?_⟩
  · have h1:n8 t.Ops=true:=by
      have h2:=h;unfold AA4 at h2;simp only[F0]at h2;exact h2.1.1.1.1.1.1.1
    have h9:=Cb0 (got:=t.Got) h1;unfold AI3 at h9;simp only[F0,H6]at h9;have:=h9.1.1;omega
  · unfold AA4 at h
    simp only[F0]at h;have h9:=h.2;unfold o0 within at h9
    rw[F0,H6,H6]at h9;exact h9
theorem CM7 :∀{got:List H7} {a:List Str},AP2 a→∀z,z∈got.foldl (fun a g=>AE9 a g.Key) a↔z∈a∨z∈got.map H7.Key
  |[],a,h,z=>by simp
  | g ::got,a,h,z=>by
    rw[List.foldl_cons,CM7 (Av1 h).1,(Av1 h).2,m4,T6];constructor
    · rintro ((h|h)|h)
      ·exact .inl h
      ·exact .inr (.inl h)
      ·exact .inr (.inr h)
    · rintro (h|h|h)
      ·exact .inl (.inl h)
      ·exact .inl (.inr h)
      ·exact .inr h
theorem Df6 (got:List H7)(ws:List B1):AI4 (AX7 (got.map H7.Key)++O8 ws)=AI4 (i9 got++O8 ws):=
  CC5 (BI9 _) (BI9 _) fun z=>by
    rw[Aw3,Aw3,y6,y6,CZ6];unfold i9;rw[CM7 (by unfold AP2;exact List.Pairwise.nil)];simp
theorem yes_yes {l:List H2}{x:H2}(h:x.Yes=true):AU5 (l++[x])=AU5 l++[x]:=by unfold AU5;rw[List.filter_append,List.filter_cons_of_pos h];rfl
theorem yes_no {l:List H2}{x:H2}(h:x.Yes=false):AU5 (l++[x])=AU5 l:=by unfold AU5;rw[List.filter_append,List.filter_cons_of_neg (by rw[h];decide)];exact T2 _
theorem Df7 (l:List H2):(AU5 l).length≤l.length:=List.length_filter_le _ _
theorem Cy5 {l:List H2} {x:H2} (hx:0<l.length→l[0]? =some x):(l.any fun t=> !decide (t=x))= !(AG4 l).2:=by
  unfold AG4
  cases l with
  |nil=>rfl
  | cons y r=>
    have h0:=hx (Nat.zero_lt_succ _);injection h0 with h0
    subst h0;by_cases h:((y::r).all fun t=>decide ((y::r)[0]? =some t))=true
    · rw[D9 h,List.any_eq_false.2]
      ·rfl
      · intro t ht
        have h1:=V7.1 h t ht;rw[BG0,H6]at h1;injection h1 with h1
        rw[h1];simp
    · rw[D0 h]
      rw[Bool.not_false,List.any_eq_true];rw[Bool.not_eq_true,List.all_eq_false]at h;obtain⟨t,ht,hn⟩:=h;refine⟨t,ht,?_⟩;rw[BG0,H6]at hn;rw[AC1 (fun e=>hn (by rw[e]))];rfl
theorem DH3 {w:C7}{ss:List E1}{k:Nat}{t:B5}{parts:List Int}{done:Bool}(h:(AG4 (P8 ss ((k:Int)+1))).2=false):Aa8 w ss k t parts done=false:=D9 h
theorem DW0 {w:C7}{ss:List E1}{k:Nat}{t:B5}{parts:List Int}{done:Bool}(h:(AG4 (P8 ss ((k:Int)+1))).2=true)(h2:((t.Put&&done)&&decide (0<((AU5 (P8 ss ((k:Int)+1))).length:Int)))=true)(h3:Av5 ss ((k:Int)+1) parts=false):Aa8 w ss k t parts done=false:=by
  unfold Aa8;rw[D0 (by rw[h];decide),D9 (by rw[h2,h3];rfl)]
theorem Ce6 {w:C7}{ss:List E1}{k:Nat}{t:B5}{parts:List Int}{done:Bool}(h:(AG4 (P8 ss ((k:Int)+1))).2=true)(h2:((t.Put&&done)&&decide (0<((AU5 (P8 ss ((k:Int)+1))).length:Int)))=false∨Av5 ss ((k:Int)+1) parts=true):Aa8 w ss k t parts done=BP2 w ss k t:=by
  unfold Aa8;rw[D0 (by rw[h];decide)];rcases h2 with h2|h2
  ·rw[D0 (by rw[h2];simp)]
  ·rw[D0 (by rw[h2];simp)]
end Go.M
namespace Go.PQ
open Go.Proofs Go.Proofs.Tryz
open Go Go.AV Go.M
attribute [local irreducible] OpW OpA OpS AWP J6 L6 K3 OpE K4 I5 L0 Le Ev G4 L9 Y8 Int.tmod Int.tdiv IntKind.wrap T3
theorem nWi_en {cuts:List Str}{ps:List (List TOp)}{ls:List (List Str)}{v:C7}{g:Nat}(hv:v=nWi cuts ps ls g)(hg:g<cuts.length+1):EN v (3*(g:Int)):=by
  subst hv;refine⟨?_,?_,rfl,?_⟩
  ·rw[Int.mul_tdiv_cancel_left _ E5];exact Cu0 hg
  ·rw[Int.tmod_eq_emod_of_nonneg qz7];omega
  · show (List.replicate (3*(cuts.length+1)) (⟨0⟩:S6))[(3*(g:Int)).toNat]? =some ⟨0⟩
    rw[List.getElem?_replicate,D9 qz7]
theorem Cy6 {α:Type}{n i:Nat}{x:α}:(List.replicate n x).set i x=List.replicate n x:=by
  rw[List.eq_replicate_iff];refine⟨by rw[a9,w3],fun b hb=> ?_⟩;rcases List.mem_or_eq_of_mem_set hb with h|h
  ·exact(AE0.1 h).2
  ·exact h
theorem nWi_next {cuts:List Str}{ps:List (List TOp)}{ls:List (List Str)}{v:C7}{g:Nat}(hv:v=nWi cuts ps ls g)(hg:g<cuts.length+1):Cm6 v (Int.tdiv (3*(g:Int)) 3).toNat=nWi cuts ps ls (g+1):=by
  subst hv;rw[Int.mul_tdiv_cancel_left _ E5,o5];unfold Cm6 Z7 Aa6 Aa5 nWi;dsimp only;rw[Cy6,Cy6,BH9,Cc2 hg]
theorem Bs9 (l:List Str)(hs:∀k∈l,k.length≤4611686018427387904):D6 47 [strs l] (AV.bool (Bu0 l)):=by
 refine B0 func47 rfl ntmps47 rfl ?_;refine Y0 (t:=0) rfl fun hl=> ?_;try simp only[A8]at hl
 refine R12 ?_;refine E8 [(0,_),(5,_),(6,_)] _ (fun (i:Nat)=>i≤l.length∧(l.all y7&&adj Op.bytesLess l)=((l.drop i).all y7&&adj Op.bytesLess (l.drop (i-1)))) (fun i=>[]) (fun i=>[(7,AV.int i)]) (fun i=>l.length-i) (0) ?_ (G2 A6) ?_
 ·exact zq4
 intro i hinv;refine zK ?_ ?_
 ·intro h8 k8;have hlt:i<l.length:=by omega
  obtain⟨x,hx⟩:=B2 hlt;obtain⟨y,hy⟩:=B2 (show i-1<l.length by omega);have hsx:=hs x (C3 hx);refine zq220 ?_;refine zq135 ?_;refine R8 ?_;refine AF2 rfl rfl (Y9 rfl rfl rfl) (fun hc=>AX5 rfl E2 I6 (A7 rfl hc) (A7 rfl hc) (by have:=AB7 (BM7 hc);omega) qz114) ?_;refine R2 ?_;refine zq174 ?_;refine zC ?_ ?_
  ·intro h27;have hfin:(l.all y7&&adj Op.bytesLess l)=false:=by rw[hinv.2,J8 hx,AA7];cases hg:y7 x with|false=>simp|true=>(simp only[hg,Bool.not_true,Bool.false_or,F0,H6,n5]at h27;rw[Am9 hx hy qz7 h27.2];simp)
   refine R5 ?_;exact D1 rfl (A5 rfl qz167)
  intro h27;refine R5 ?_;refine F1 i (i+1) ?_ ?_ (G2 A6)
  ·exact zq153
  omega
 intro h8 k8;have hge:l.length≤i:=by omega
 refine R5 ?_;refine zq155 ?_;refine R3 ?_;exact D1 rfl (A5 rfl qz167)
theorem Bm0 (cuts:List Str)(ps:List (List TOp))(ls:List (List Str))(h:BC1 cuts ps ls):M0 12 [strs cuts,AV.list 1 (ps.map fun l=>[AV.list 4 (l.map TOp.cs)]),AV.list 1 (ls.map fun l=>[strs l])] [] (fun v:C7×Bool=>v=nWR cuts ps ls∧(v.2=true→WI v.1∧WQ v.1)) (fun _=>[]) (fun v=>AV.tup [AV.agg v.1.cs,AV.bool v.2]):=by
 have hcl:=h.cuts.2.1;have hpl:=h.ps.1;have hll:=h.ls.1;have hwi:=h.wi;obtain⟨N,hN⟩:∃N,cuts.length+1=N:=⟨_,rfl⟩;have hcb:∀k∈cuts,k.length≤4611686018427387904:=fun k hk=>L7 (h.cuts.2.2 k hk) E5;obtain⟨P9,hP9⟩:∃P9,ps.map (BF1 N)=P9:=⟨_,rfl⟩;obtain⟨Q9,hQ9⟩:∃Q9,AX4 N ls ls.length=Q9:=⟨_,rfl⟩;have hP9l:P9.length=ps.length:=by rw[←hP9,A8]
 have hQ9l:Q9.length=ls.length:=by rw[←hQ9,Az6]
 refine C8 func12 rfl ntmps12 rfl ?_;refine R3 ?_;intro b6;refine R6 ?_;refine zF rfl call45 (BS7 cuts hcb) G6 ?_;refine zC ?_ ?_
 ·intro h39
  (exfalso;simp only[h.cuts.1,A8]at h39;simp at h39;omega)
 intro h39;refine R9 ?_;refine E8 [(0,_),(1,_),(2,_),(6,_),(41,_),(42,_)] _ (fun (i:Nat)=>i≤ps.length∧∀p∈ps.take i,p≠[]) (fun i=>[]) (fun i=>[(43,AV.int i)]) (fun i=>ps.length-i) (0) ?_ (G2 A6) ?_
 ·exact⟨E4 _,fun p hp=>by simp at hp⟩
 intro i hinv;refine zK ?_ ?_
 ·intro h44 k44;have hlt:i<ps.length:=Bu3;obtain⟨p,hp⟩:=B2 hlt;have hpk:=h.ps.2 p (C3 hp);refine R5 ?_;refine A1 rfl (C2 rfl AL6 AR0 zA zA hp qz1) ?_;refine R6 ?_;refine zF rfl call46 (Br8 p (by have h9:=AE5 (f:=TOp.size) (c:=36) (l:=p) fun o ho=>(AT6 hpk.1 o ho).size;have h8:p.length≤8:=(by have h7:=hpk.1;unfold n8 at h7;rw[F0,H6]at h7;have:=h7.1;omega);have h6:p.length*(36+1)≤8*37:=AD0 _ h8;omega)) (A2 (A0 rfl) A9) ?_;refine zC ?_ ?_
  ·intro h54;have hz:p=[]:=(by rw[show BB3 p=true from by rw[←Bh6];exact hpk.1]at h54;simp only[A8]at h54;simp at h54;exact h54);have hno:nWR cuts ps ls=(Af0,false):=(by unfold nWR;rw[nOk_no (by rw[hp,hz])];rfl);refine zq94 ?_;exact I9 [] ((Af0,false)) (qz112) rfl B7 (j6 rfl E5 (G0 (F5 (ys:=_) 0 rfl rfl V5 P4 rfl) (G0 (A5 rfl B7) u9)))
  intro h54;have hne:p≠[]:=(fun h9=>by subst h9;simp at h54);refine R5 ?_;refine F1 i (i+1) ?_ ?_ (G2 A6)
  ·exact⟨by omega,fun q hq=>by rw[X3,hp]at hq;rcases y6.1 hq with hq|hq;exact hinv.2 q hq;(have h9:q=p:=by simpa using hq);subst h9;exact hne⟩
  omega
 intro h44 k44;have hyes:nOk ps=true:=DM1 (by have h9:=hinv.2;rwa [S7 (show ps.length≤i by simpa using h44)]at h9);have hwr:nWR cuts ps ls=(nW cuts ps ls,true):=D9 hyes;refine R9 ?_;refine E8 [(0,_),(1,_),(2,_),(6,_),(57,_),(58,_)] _ (fun (j:Nat)=>j≤ls.length) (fun j=>[]) (fun j=>[(59,AV.int j)]) (fun j=>ls.length-j) (0) ?_ (G2 A6) ?_
 ·exact E4 _
 intro j hinv;refine zK ?_ ?_
 ·intro h60 k60;have hlt2:j<ls.length:=(by simpa using h60);obtain⟨l,hl⟩:=B2 hlt2;have hlk:=h.ls.2 l (C3 hl);refine R5 ?_;refine A1 rfl (C2 rfl AD2 AA0 zA zA hl qz1) ?_;refine R6 ?_;refine zF rfl call47 (Bs9 l (fun k hk=>by have:=(AL9 (hlk.2.2 k hk)).2;omega)) G6 ?_;refine zC ?_ ?_
  ·intro h65
   (exfalso;rw[l16K_of hlk.1 hlk.2.2 hlk.2.1]at h65;cases h65)
  intro h65;refine R5 ?_;refine F1 j (j+1) ?_ ?_ (G2 A6)
  ·exact qz7
  omega
 intro h60 k60;refine zq223 ?_;refine Co5 [(1,_),(2,_),(6,_),(12,_)] A6 (fun (b82:Nat) (cv:Value) (lv:Value) (pv:Value)=>[.box b82 97 [AV.int 0,AV.int 0,AV.is cv,strs cuts,AV.nils,AV.is lv,AV.is pv,AV.nils,AV.nils],.box b6 32 (List.map m7 (Value.agg #[Value.int IntKind.i64 0,Value.int IntKind.i64 0,E6,E6,E6,E6,E6,E6,E6]).cells.toList),.arr cv 102 1 (List.replicate (3*N) [AV.int 0]),.arr lv 105 1 (List.replicate N [AV.nils]),.arr pv 3 1 (List.replicate N [AV.int 0])]) (fun (b82:Nat) (cv:Value) (lv:Value) (pv:Value)=>[(13,AV.ptr b82 0)]) ?_ ?_
 ·skip
  refine CC3 [] 11 (.pure 0 (.pure 1 (.pure 3 (.pure 4 (.pure 5 (.pure 7 (.e3 2 (.e2 6 (.e1 8 (.pure 9 (.pure 10 .nil))) 8 (.e1 6 (.pure 9 (.pure 10 .nil)))) 6 (.e2 2 (.e1 8 (.pure 9 (.pure 10 .nil))) 8 (.e1 2 (.pure 9 (.pure 10 .nil)))) 8 (.e2 2 (.e1 6 (.pure 9 (.pure 10 .nil))) 6 (.e1 2 (.pure 9 (.pure 10 .nil))))))))))) E3 E3 rfl BC9 ?_;refine R1 ?_;refine AZ5 rfl rfl rfl (fun ext=>CM2 (a:=3*((N:Nat):Int)) (3*N) (Ad0 rfl L1 zA qz7) qz7) ?_;refine R1 ?_;refine AZ5 rfl rfl rfl (fun ext=>zG rfl call48 (AH0 _ qz7) (A2 (A0 rfl) A9)) ?_;refine R2 ?_;refine bt3_e3 ?_ ?_ ?_
  ·refine zq211 ?_;intro v73 hone_v73;have one_v73:=hone_v73.2;refine Co7 ?_ ?_
   ·refine zq24 ?_;intro v77 hone_v77;have one_v77:=hone_v77.2;refine R1 ?_;refine zq7 ?_;intro v79 hone_v79;have one_v79:=hone_v79.2;refine zq1 ?_;intro b82;refine R2 ?_;exact⟨b82,v73,v77,v79,Le.trans (B4 [0,0,0,0,0] rfl) (D5 0 B7 A6)⟩
   refine zq29 ?_;intro v79 hone_v79;have one_v79:=hone_v79.2;refine R1 ?_;refine zq5 ?_;intro v77 hone_v77;have one_v77:=hone_v77.2;refine zq1 ?_;intro b82;refine R2 ?_;exact⟨b82,v73,v77,v79,Le.trans (B4 [0,0,0,1,0] rfl) (D5 0 B7 A6)⟩
  ·refine zq209 ?_;intro v77 hone_v77;have one_v77:=hone_v77.2;refine Co7 ?_ ?_
   ·refine zq25 ?_;intro v73 hone_v73;have one_v73:=hone_v73.2;refine R1 ?_;refine zq7 ?_;intro v79 hone_v79;have one_v79:=hone_v79.2;refine zq1 ?_;intro b82;refine R2 ?_;exact⟨b82,v73,v77,v79,Le.trans (B4 [0,0,1,0,0] rfl) (D5 0 B7 A6)⟩
   refine zq29 ?_;intro v79 hone_v79;have one_v79:=hone_v79.2;refine R1 ?_;refine zq6 ?_;intro v73 hone_v73;have one_v73:=hone_v73.2;refine zq1 ?_;intro b82;refine R2 ?_;exact⟨b82,v73,v77,v79,Le.trans (B4 [0,0,2,0,0] rfl) (D5 0 B7 A6)⟩
  refine zq213 ?_;intro v79 hone_v79;have one_v79:=hone_v79.2;refine Co7 ?_ ?_
  ·refine zq25 ?_;intro v73 hone_v73;have one_v73:=hone_v73.2;refine R1 ?_;refine zq5 ?_;intro v77 hone_v77;have one_v77:=hone_v77.2;refine zq1 ?_;intro b82;refine R2 ?_;exact⟨b82,v73,v77,v79,Le.trans (B4 [0,0,1,1,0] rfl) (D5 0 B7 A6)⟩
  refine zq24 ?_;intro v77 hone_v77;have one_v77:=hone_v77.2;refine R1 ?_;refine zq6 ?_;intro v73 hone_v73;have one_v73:=hone_v73.2;refine zq1 ?_;intro b82;refine R2 ?_;exact⟨b82,v73,v77,v79,Le.trans (B4 [0,0,2,1,0] rfl) (D5 0 B7 A6)⟩
 intro b82 cv lv pv;refine R2 ?_;refine AWP.le (BR5 5 3 (.arr lv 105 1 ((List.replicate N ([]:List G9)).map fun l=>[AV.list 3 (l.map G9.cs)])) rfl (⟨rfl,rfl,rfl,DM5 N⟩) M6) ?_;refine R4 ?_;refine X5 38 3 ?_;refine zL [1,0] ?_;refine K5 [(1,_),(2,_),(6,_),(12,_),(13,_)] _ (fun (i:Nat) (gv:Value)=>i≤N) (fun i gv=>[.box b82 97 [AV.int 0,AV.int 0,AV.is cv,strs cuts,AV.is gv,AV.is lv,AV.is pv,AV.nils,AV.nils],.arr gv 38 3 ((List.replicate i nG0).map C1.cs)]) (fun i gv=>[(14,AV.int i)]) (fun i gv=>N-i) (0) (E6) ?_ (I1 B7 A6) ?_
 ·exact E4 _
 intro i gv hinv;refine zK ?_ ?_
 ·intro h85 k85;refine R5 ?_;refine zF rfl call49 (Ch2 3) zS ?_;refine R4 ?_;intro b15;refine R3 ?_;refine H3 qz9 ?_;refine zL [1,0] ?_;refine P1 _ [(0,false),(1,false),(2,false),(3,false),(4,false),(5,false),(6,false),(7,false),(8,true)] E3 E3 rfl (U8 2) ?_;refine R8 ?_;refine U2 rfl rfl rfl (N3 (by':=40) 2 rfl F8 type38 rfl rfl rfl rfl rfl rfl zA zA rfl (by rw[A8,w3];simp only[X4];omega)) (fun a _=>qz3) ?_;intro v100_1 _;refine R4 ?_;refine O7 2 rfl fun one_v100_1=> ?_;refine N2 0 rfl rfl rfl zA zA (F6 one_v100_1) rfl sizeOf26 rfl ?_;refine zq139 ?_;refine R5 ?_;refine H5 i gv (i+1) (v100_1) ?_ ?_ (Le.trans (B4 [1,0,0] rfl) (D5 1 qz224 A6))
  ·exact qz7
  omega
 intro h85 k85;rw[show i=N by omega];refine R9 ?_;refine X5 94 10 ?_;refine zL [1,2,2,1,1,1,0] ?_;refine W1 [(2,_),(6,_),(12,_),(13,_),(104,_),(105,_)] [] (fun (j:Nat) (tv:Value) (T:List (Value×Value))=>j≤ps.length∧T.length=j) (fun j tv T=>[.box b82 97 [AV.int 0,AV.int 0,AV.is cv,strs cuts,AV.is gv,AV.is lv,AV.is pv,AV.is tv,AV.nils],.box b6 32 (List.map m7 (Value.agg #[Value.int IntKind.i64 0,Value.int IntKind.i64 0,E6,E6,E6,E6,E6,E6,E6]).cells.toList),.arr cv 102 1 (List.replicate (3*N) [AV.int 0]),.arr gv 38 3 ((List.replicate N nG0).map C1.cs),.arr lv 105 1 ((List.replicate N ([]:List G9)).map fun l=>[AV.list 3 (l.map G9.cs)]),.arr pv 3 1 (List.replicate N [AV.int 0]),.arr tv 94 10 (L4 B5.ocs (P9.take j) T)]++(nin B5.ow (P9.take j) T)) (fun j tv T=>[(106,AV.int j)]) (fun j tv T=>ps.length-j) (0) (E6) ([]) ?_ (I1 B7 A6) ?_
 ·exact zq4
 intro j tv T hinv;refine H3 (T2 _) ?_;refine zK ?_ ?_
 ·intro h107 k107;have hlt:j<ps.length:=(by simpa using h107);obtain⟨p,hp⟩:=B2 hlt;have ht:P9[j]? =some (BF1 N p):=(by rw[←hP9,a8,hp];rfl);have hpk:=h.ps.2 p (C3 hp);have hp8:p.length≤8:=(by have h9:=hpk.1;unfold n8 at h9;rw[F0,H6]at h9;have:=h9.1;omega);refine R5 ?_;refine A1 rfl (C2 rfl AL6 AR0 zA zA hp qz1) ?_;refine R3 ?_;refine zL [0] ?_;refine Z9 _ 14 (.pure 0 (.pure 1 (.pure 2 (.pure 3 (.pure 4 (.pure 5 (.pure 7 (.pure 9 (.e2 6 (.e2 8 (.e1 10 (.pure 11 (.pure 12 (.e1 13 .nil)))) 10 (.e1 8 (.pure 11 (.pure 12 (.e1 13 .nil))))) 10 (.e1 6 (.e1 8 (.pure 11 (.pure 12 (.e1 13 .nil)))))))))))))) E3 E3 rfl (U8 1) ?_;refine R8 ?_;refine AR7 ?_ ?_
  ·refine F7 rfl rfl rfl (AC6 7<|AC3 rfl U6 Z1) (fun a _=>qz3) ?_;intro v116 _;refine AR7 ?_ ?_
   ·refine zq121 ?_;intro v118_2 _;refine R1 ?_;refine zq196 ?_;intro v120 hone_v120;have one_v120:=hone_v120.2;refine zq14 ?_;intro v123_3 _;refine R4 ?_;refine O7 6 rfl fun one_v123_3=> ?_;refine N2 0 rfl rfl rfl zA zA (F6 one_v123_3) rfl AW2 rfl ?_;refine zq11 ?_;refine R4 ?_;refine Q8 j tv T (j+1) (v123_3) (T++[(E6,v120)]) ?_ ?_ (Le.trans (B4 [0,0,0,0,0,0,0] rfl) (I1 (Eq.trans qz146 (T2 _).symm) A6))
    ·exact⟨by omega,by rw[I2,hinv.2];rfl⟩
    omega
   refine F7 rfl rfl rfl (J2 8 (fun _=>rfl) (AC6 8<|L8 (by':=8) rfl D3 type3 rfl rfl rfl rfl rfl rfl zA zA qz1 qz1)) (fun a _=>qz3) ?_;intro v120 hone_v120;have one_v120:=hone_v120.2;refine R1 ?_;refine zq121 ?_;intro v118_4 _;refine zq14 ?_;intro v123_5 _;refine R4 ?_;refine O7 6 rfl fun one_v123_5=> ?_;refine N2 0 rfl rfl rfl zA zA (F6 one_v123_5) rfl AW2 rfl ?_;refine zq11 ?_;refine R4 ?_;refine Q8 j tv T (j+1) (v123_5) (T++[(E6,v120)]) ?_ ?_ (Le.trans (B4 [0,0,0,0,0,0,0] rfl) (I1 (Eq.trans qz146 (T2 _).symm) A6))
   ·exact⟨by omega,by rw[I2,hinv.2];rfl⟩
   omega
  refine zq196 ?_;intro v120 hone_v120;have one_v120:=hone_v120.2;refine R1 ?_;refine F7 rfl rfl rfl (AC6 8<|AC3 rfl U6 Z1) (fun a _=>qz3) ?_;intro v116 _;refine R1 ?_;refine F7 rfl rfl rfl (Af7 [8] (fun _=>rfl) (fun _=>K2 (C3 (i:=0) rfl) G3) (fun _=>M6) (N3 (by':=48) 8 rfl U6 type92 rfl rfl rfl rfl rfl rfl zA zA rfl qz1)) (fun a _=>qz3) ?_;intro v118_6 _;refine zq14 ?_;intro v123_7 _;refine R4 ?_;refine O7 6 rfl fun one_v123_7=> ?_;refine N2 0 rfl rfl rfl zA zA (F6 one_v123_7) rfl AW2 rfl ?_;refine zq11 ?_;refine R4 ?_;refine Q8 j tv T (j+1) (v123_7) (T++[(E6,v120)]) ?_ ?_ (Le.trans (B4 [0,0,0,0,0,0,0] rfl) (I1 (Eq.trans qz146 (T2 _).symm) A6))
  ·exact⟨by omega,by rw[I2,hinv.2];rfl⟩
  omega
 intro h107 k107;have hxT:T.length=ps.length:=(by have h9:ps.length≤j:=(by simpa using h107);omega);rw[show P9.take j=P9 from S7 qz7];refine R9 ?_;refine X5 55 6 ?_;refine zL [1,1,1,1,1,1,1,0] ?_;refine W1 [(6,_),(12,_),(13,_),(128,_),(129,_)] [] (fun (m:Nat) (kv:Value) (L:List Value)=>m≤ls.length∧L.length=m) (fun m kv L=>[.box b82 97 [AV.int 0,AV.int 0,AV.is cv,strs cuts,AV.is gv,AV.is lv,AV.is pv,AV.is tv,AV.is kv],.box b6 32 (List.map m7 (Value.agg #[Value.int IntKind.i64 0,Value.int IntKind.i64 0,E6,E6,E6,E6,E6,E6,E6]).cells.toList),.arr cv 102 1 (List.replicate (3*N) [AV.int 0]),.arr gv 38 3 ((List.replicate N nG0).map C1.cs),.arr lv 105 1 ((List.replicate N ([]:List G9)).map fun l=>[AV.list 3 (l.map G9.cs)]),.arr pv 3 1 (List.replicate N [AV.int 0]),.arr tv 94 10 (L4 B5.ocs P9 T),.arr kv 55 6 (L4 C5.ocs (Q9.take m) L)]++(nin B5.ow P9 T++nin C5.ow (Q9.take m) L)) (fun m kv L=>[(130,AV.int m)]) (fun m kv L=>ls.length-m) (0) (E6) ([]) ?_ (I1 qz188 A6) ?_
 ·exact zq4
 intro m kv L hinv;refine H3 (T2 _) ?_;refine zK ?_ ?_
 ·intro h131 k131;have hltm:m<ls.length:=(by simpa using h131);obtain⟨l,hl⟩:=B2 hltm;have hq9:Q9[m]? =some (BP8 N m l):=(by rw[←hQ9];exact CM4 hl);have hlk:=h.ls.2 l (C3 hl);refine R6 ?_;refine A1 rfl (C2 rfl AD2 AA0 zA zA hl qz1) ?_;refine R4 ?_;refine zL [0] ?_;refine P1 _ [(0,false),(1,false),(2,false),(3,false),(4,false),(5,false),(6,false),(7,false),(8,false),(9,false),(10,false),(11,false),(12,false),(13,false),(14,true)] E3 E3 rfl (U8 1) ?_;refine R8 ?_;refine N0 rfl rfl rfl (fun ext=>Ad0 rfl L1 zA qz1) ?_;refine N0 rfl rfl rfl (fun ext=>BM8 rfl zA zA qz1) ?_;refine R1 ?_;refine N0 rfl rfl rfl (fun ext=>zG rfl call48 (AH0 _ qz7) (A2 (A0 rfl) A9)) ?_;refine R2 ?_;refine U2 rfl rfl rfl (N3 (by':=80) 7 rfl j8 type55 rfl rfl rfl rfl rfl rfl zA zA rfl BK6) (fun a _=>qz3) ?_;intro v149_8 _;refine R4 ?_;refine O7 7 rfl fun one_v149_8=> ?_;refine N2 0 rfl rfl rfl zA zA (F6 one_v149_8) rfl sizeOf30 rfl ?_;refine R1 ?_;refine zq106 ?_;refine Q8 m kv L (m+1) (v149_8) (L++[E6]) ?_ ?_ (Le.trans (B4 [0,0,0,0,0,0,0,0] rfl) (I1 (Eq.trans (by (rw[←AP5 (ocs:=C5.ocs) (x:=(E6)) hq9 hinv.2];rfl)) (T2 _).symm) A6))
  ·exact⟨by omega,by rw[I2,hinv.2];rfl⟩
  omega
 intro h131 k131;have hxL:L.length=ls.length:=(by have h9:ls.length≤m:=(by simpa using h131);omega);rw[show Q9.take m=Q9 from S7 qz7];refine R7 ?_;refine zL [0,1,1,1,1,1,1,0] ?_;refine K5 [(6,_),(12,_),(13,_)] [] (fun (g:Nat) (v:C7)=>g≤N∧WI v∧(v.Groups.length=N∧v.Count=0)∧v.Txns=P9∧v.Looks=Q9∧v=nWi cuts ps ls g) (fun g v=>[.box b82 97 [AV.int v.Now,AV.int v.Count,AV.is cv,strs v.Cuts,AV.is gv,AV.is lv,AV.is pv,AV.is tv,AV.is kv],.arr cv 102 1 (v.Clocks.map S6.cs),.arr gv 38 3 (v.Groups.map C1.cs),.arr lv 105 1 (v.Locks.map fun l=>[AV.list 3 (l.map G9.cs)]),.arr pv 3 1 (v.Promised.map fun n=>[AV.int n]),.arr tv 94 10 (L4 B5.ocs v.Txns T),.arr kv 55 6 (L4 C5.ocs v.Looks L),.box b6 32 (List.map m7 (Value.agg #[Value.int IntKind.i64 0,Value.int IntKind.i64 0,E6,E6,E6,E6,E6,E6,E6]).cells.toList)]++(nwZ v T L)) (fun g v=>[(21,AV.int g)]) (fun g v=>N-g) (0) (BF3 cuts ps ls) ?_ (I1 (by (rw[T2];unfold BF3;dsimp only;rw[hN,hP9,hQ9,Av3,Av3,Av3,Av3];rfl)) A6) ?_
 ·exact⟨E4 _,hwi,⟨(by unfold BF3;dsimp only;rw[w3];exact hN),rfl⟩,(by rw[←hP9,←hN];rfl),(by rw[←hQ9,←hN];rfl),rfl⟩
 intro g v hinv;refine H3 (T2 _) ?_;refine zK ?_ ?_
 ·intro h156 k156;refine R6 ?_;refine A1 rfl (Ad0 rfl L1 zA qz1) ?_;refine M2 [0,0,0,0,0,0,0] 1 7 (nwZ v T L) (fun zz=>nwZ zz.1 T L) rfl rfl rfl rfl call50 rfl rfl (CL5 b82 v ⟨cv,gv,lv,pv,tv,kv⟩ T L (3*(g:Int)) hinv.2.1 (by rw[hinv.2.2.1.1];omega)) F3 (fun a=>O4) ?_;intro x162 ok162;refine R6 ?_;refine H5 g v (g+1) (x162.1) ?_ ?_ (I1 (Eq.trans B7 (T2 _).symm) A6)
  ·exact⟨by omega,ok162.1.1,⟨ok162.1.2.1.groups.trans hinv.2.2.1.1,ok162.1.2.1.count.trans hinv.2.2.1.2⟩,ok162.1.2.2.1.trans hinv.2.2.2.1,ok162.1.2.2.2.trans hinv.2.2.2.2.1,by rw[ok162.2 (nWi_en hinv.2.2.2.2.2 qz7)];exact nWi_next hinv.2.2.2.2.2 qz7⟩
  omega
 intro h156 k156;have hfin:v=nW cuts ps ls:=(by rw[hinv.2.2.2.2.2,show g=cuts.length+1 by (have h9:¬((g:Int)<(N:Int)):=(by simpa using h156));omega];exact nWi_all cuts ps ls);refine R2 ?_;refine zL [0,6,0,0,0,0,0,0] ?_;refine AWP.le (BR5 2 0 (.box b82 97 v.cs) rfl (⟨rfl,rfl,Bj1 (w:=v) (X:=⟨cv,gv,lv,pv,tv,kv⟩) (T:=T) (L:=L) (by rw[hinv.2.2.2.1,hxT,←hP9,A8]) (by rw[hinv.2.2.2.2.1,hxL,←hQ9,Az6]) (fun _ ho=>ho)⟩) M6) ?_;refine R5 ?_;refine zF rfl call51 (CV3 v hinv.2.1) G6 ?_;refine R4 ?_;exact I9 [] ((v,true)) (qz112) rfl B7 (j6 rfl E5 (G0 (F5 (ys:=_) 1 rfl rfl V5 P4 rfl) (G0 (A5 rfl B7) u9)))
theorem Ao2 (cuts:List Str)(ps:List (List TOp))(ls:List (List Str))(h:BC1 cuts ps ls)(hne:∀p∈ps,1≤p.length):M0 12 [strs cuts,AV.list 1 (ps.map fun l=>[AV.list 4 (l.map TOp.cs)]),AV.list 1 (ls.map fun l=>[strs l])] [] (fun v:C7=>WI v∧WQ v) (fun _=>[]) (fun v=>AV.tup [AV.agg v.cs,AV.bool true]):=
  Dc9 Prod.fst (fun v hv=>by
    have h9:v.2=true:=by rw[hv.1];unfold nWR;rw[D9 (DM1 fun p hp h9=>by have:=hne p hp;rw[h9]at this;exact absurd this E5)]
    exact⟨hv.2 h9,rfl,by rw[h9]⟩) (Bm0 cuts ps ls h)
theorem Au0 (w:C7)(n:Int):D6 139 [AV.agg w.cs,AV.int n] (AV.bool (within n (-1) w.Count)):=by
  refine B0 func139 rfl ntmps139 rfl ?_;refine R3 ?_;intro b2;refine R7 ?_;refine zF rfl call29 (Z0 _ _ _) Ax5 ?_;exact zq158
theorem DH4 (w:C7)(n:Int)(hl:w.Clocks.length≤9):D6 141 [AV.agg w.cs,AV.int n] (AV.bool (within n 0 ((w.Clocks.length:Int)-1))):=by
  refine B0 func141 rfl ntmps141 rfl ?_;refine R3 ?_;intro b2;refine R9 ?_;refine zF rfl call29 (Z0 _ _ _) Ax5 ?_;refine R3 ?_;exact D1 rfl (A5 rfl (by exact F2 AV.bool (by rw[A8])))
theorem Bc7 (l:List TOp)(hs:D2 TOp.size l≤1048576):D6 37 [AV.list 4 (l.map TOp.cs)] (AV.bool (n8 l&&decide (0<(l.length:Int)))):=by
  refine B0 func37 rfl ntmps37 rfl ?_;refine R11 ?_;refine L5 rfl (fun hc=>zG rfl call109 (Ch5 _ X9) (A2 (A7 rfl hc) A9)) ?_;refine R4 ?_;exact D1 rfl (A5 rfl (by exact F2 AV.bool (by rw[A8,Bool.and_comm])))
theorem BT0 (l:List Str)(hs:∀k∈l,k.length≤12):D6 40 [strs l] (AV.bool (AP4 l)):=by
  have hk:=Cm0 hs;refine B0 func40 rfl ntmps40 rfl ?_;refine R8 ?_;refine zq202 ?_;refine R2 ?_;refine L5 rfl (fun hc=>zG rfl call107 (Ad9 _ (by first|assumption|exact CJ1 AI6)) (A2 (A7 rfl hc) A9)) ?_;refine R4 ?_;exact D1 rfl (A5 rfl (by exact F2 AV.bool (by unfold AP4;rw[A8])))
theorem CE8 (n:Int):D6 138 [AV.int n] (AV.bool (!within n 0 200)):=by
  refine B0 func138 rfl ntmps138 rfl ?_;refine R7 ?_;refine zq202 ?_;exact zq114
theorem CM8 (w:C7)(t:B5)(ho:D2 TOp.size t.Ops≤1048576)(hg:D2 H7.size t.Got≤1048576):D6 66 [AV.agg w.cs,AV.agg t.cs] (AV.bool (AA4 w t)):=by
  have hg4:D2 H7.size t.Got≤4194304:=L7 hg E5;refine B0 func66 rfl ntmps66 rfl ?_;refine R3 ?_;intro b2;refine R1 ?_;intro b3;refine R6 ?_;refine zF rfl call37 (Bc7 _ AI6) (A2 (A0 rfl) A9) ?_;refine R3 ?_;refine L5 rfl (fun hc=>zG rfl call136 (Bz4 _ X9) (A2 (A7 rfl hc) A9)) ?_;refine R13 ?_;refine L5 rfl (fun hc=>zG rfl call137 (Bi1 _ _ _ Au5) (A2 (A7 rfl hc) (A2 (BC6 call138 (fun n (_:True)=>CE8 n)) A9))) ?_;refine R6 ?_;refine zq192 ?_;refine R5 ?_;refine zq192 ?_;refine R4 ?_;refine L5 rfl (fun hc=>zG rfl call60 (Ar6 _) zS) ?_;refine R4 ?_;exact D1 rfl (A5 rfl (by exact F2 AV.bool (by unfold AA4;rw[Bj3 (p:=fun n=>within n 0 200) (fun _=>rfl),A8,A8])))
theorem DH5 (w:C7)(t:B5)(ho:D2 TOp.size t.Ops≤1048576)(hg:D2 H7.size t.Got≤1048576):D6 84 [AV.agg w.cs,AV.agg t.cs] (AV.bool (AA4 w t)):=by
  have hg4:D2 H7.size t.Got≤4194304:=L7 hg E5;refine B0 func84 rfl ntmps84 rfl ?_;refine R3 ?_;intro b2;refine R1 ?_;intro b3;refine R6 ?_;refine zF rfl call46 (Br8 t.Ops ho) G6 ?_;refine R9 ?_;refine L5 rfl (fun hc=>zG rfl call158 (Bz5 _ X9) (A2 (A7 rfl hc) A9)) ?_;refine R13 ?_;refine L5 rfl (fun hc=>zG rfl call80 (CK7 _ _ _) (A2 (A7 rfl hc) AT1)) ?_;refine zq89 ?_;refine zq89 ?_;refine R4 ?_;refine L5 rfl (fun hc=>zG rfl call86 (Ar7 _) zS) ?_;refine R4 ?_;exact D1 rfl (A5 rfl (by exact F2 AV.bool (by unfold AA4;rw[Bh6,A8,A8,A8])))
theorem CE9 (w:C7)(l:C5)(hc:w.Clocks.length≤9)(hk:∀k∈l.Keys,k.length≤12)(hg:D2 H7.size l.Got≤1048576):D6 69 [AV.agg w.cs,AV.agg l.cs] (AV.bool (o4 w l)):=by
 have hg4:D2 H7.size l.Got≤4194304:=L7 hg E5;have hgn:=M7 (f:=H7.size) (l:=l.Got);refine B0 func69 rfl ntmps69 rfl ?_;refine R3 ?_;intro b2;refine R1 ?_;intro b3;refine R8 ?_;refine zF rfl call141 (DH4 _ _ AI6) (A2 (A0 rfl) (A2 (A0 rfl) A9)) ?_;refine R4 ?_;refine S0 rfl (fun hc=>zG rfl call40 (BT0 _ AI6) (A2 (A7 rfl hc) A9)) ?_;refine R14 ?_;refine S0 rfl (fun hc=>zG rfl call136 (Bz4 _ X9) (A2 (A7 rfl hc) A9)) ?_;refine zC ?_ ?_
 ·intro h32;have he:o4 w l=false:=(by unfold o4;simp only[A8]at h32;cases h1:within l.Node 0 ((w.Clocks.length:Int)-1)<;>cases h2:AP4 l.Keys<;>cases h3:AN2 l.Got<;>by_cases h4:(l.Got.length:Int)≤(l.Keys.length:Int)<;>simp_all<;>omega);rw[he];exact zq40
 intro h32;have hle:l.Got.length≤l.Keys.length:=(by simp only[A8,v9,AB8]at h32;have h9:=h32.1.2;omega);have he:o4 w l=(((AV0 l.Got l.Keys&&o0 l.Time)&&within l.Begin (-1) w.Count)&&within l.End (-1) w.Count):=(by unfold o4;simp only[A8,v9,AD1]at h32;rw[h32.1.1.1,h32.1.1.2,h32.2,W6 (show (l.Got.length:Int)≤(l.Keys.length:Int) by omega)];rfl);rw[he];refine R10 ?_;refine E8 [(2,_),(3,_),(34,_),(35,_)] _ (fun (i:Nat)=>i≤l.Got.length∧∀(j:Nat) (g:H7) (k:Str),j<i→l.Got[j]? =some g→l.Keys[j]? =some k→g.Key=k) (fun i=>[]) (fun i=>[(36,AV.int i)]) (fun i=>l.Got.length-i) (0) ?_ (G2 A6) ?_
 ·exact⟨E4 _,fun j _ _ h=>absurd h (Nat.not_lt_zero j)⟩
 intro i hinv;refine zK ?_ ?_
 ·intro h37 k37;have hlt:i<l.Got.length:=(by simpa using h37);obtain⟨x,hx⟩:=B2 hlt;obtain⟨y,hy⟩:=B2 (show i<l.Keys.length by omega);refine R6 ?_;refine zq91 ?_;intro b6;refine R10 ?_;refine zq172 ?_;refine zC ?_ ?_
  ·intro h48;have hm:AV0 l.Got l.Keys=false:=(by rw[←Bool.not_eq_true,At8 hle];intro h9;have h8:=h9 i x y hx hy;simp[h8]at h48);rw[hm];exact zq40
  intro h48;refine R5 ?_;refine F1 i (i+1) ?_ ?_ (T4 1 A6)
  ·exact⟨by omega,fun j g2 k2 hj e1 e2=>by rcases Nat.lt_or_eq_of_le (Nat.le_of_lt_succ hj)with h9|rfl;exact hinv.2 j g2 k2 h9 e1 e2;rw[hx]at e1;rw[hy]at e2;injection e1 with e1;injection e2 with e2;subst e1;subst e2;simpa using h48⟩
  omega
 intro h37 k37;have hm:AV0 l.Got l.Keys=true:=(At8 hle).2 (fun j g k e1 e2=>hinv.2 j g k (by have h9:=(G1.1 e1).1;omega) e1 e2);rw[hm,Bool.true_and];refine R5 ?_;refine zF rfl call60 (Ar6 _) G6 ?_;refine R4 ?_;refine zq192 ?_;refine R5 ?_;refine zq192 ?_;refine R4 ?_;exact zq3
theorem Cy7 (w:C7)(l:C5)(hc:w.Clocks.length≤9)(hk:∀k∈l.Keys,k.length≤12)(hg:D2 H7.size l.Got≤1048576):D6 85 [AV.agg w.cs,AV.agg l.cs] (AV.bool (o4 w l)):=by
 have hg4:D2 H7.size l.Got≤4194304:=L7 hg E5;have hgn:=M7 (f:=H7.size) (l:=l.Got);have hk2:=Cm0 hk;have hlk:=DH0 l.Keys;refine B0 func85 rfl ntmps85 rfl ?_;refine R3 ?_;intro b2;refine R1 ?_;intro b3;refine R7 ?_;refine zF rfl call47 (Bs9 _ AI6) (A2 (A0 rfl) A9) ?_;refine R13 ?_;refine S0 rfl (fun hc=>zG rfl call158 (Bz5 _ X9) (A2 (A7 rfl hc) A9)) ?_;refine zC ?_ ?_
 ·intro h25;have he:o4 w l=false:=(by unfold o4;rw[hlk];simp only[A8]at h25;cases h1:within l.Node 0 ((w.Clocks.length:Int)-1)<;>cases h2:Bu0 l.Keys<;>cases h3:AN2 l.Got<;>by_cases h4:(l.Got.length:Int)≤(l.Keys.length:Int)<;>simp_all<;>omega);rw[he];refine R5 ?_;exact D1 rfl (A5 rfl qz196)
 intro h25;have hle:l.Got.length≤l.Keys.length:=(by simp only[A8,v9,AB8]at h25;have h9:=h25.1.2;omega);have he:o4 w l=(AV0 l.Got l.Keys&&(((within l.Node 0 ((w.Clocks.length:Int)-1)&&o0 l.Time)&&within l.Begin (-1) w.Count)&&within l.End (-1) w.Count)):=(by unfold o4;rw[hlk];simp only[A8,v9,AD1]at h25;rw[h25.1.1,h25.2,W6 (show (l.Got.length:Int)≤(l.Keys.length:Int) by omega)];cases within l.Node 0 ((w.Clocks.length:Int)-1)<;>cases AV0 l.Got l.Keys<;>rfl);rw[he];refine R10 ?_;refine E8 [(2,_),(3,_),(27,_),(28,_)] _ (fun (i:Nat)=>i≤l.Got.length∧∀(j:Nat) (g:H7) (k:Str),j<i→l.Got[j]? =some g→l.Keys[j]? =some k→g.Key=k) (fun i=>[]) (fun i=>[(29,AV.int i)]) (fun i=>l.Got.length-i) (0) ?_ (G2 A6) ?_
 ·exact⟨E4 _,fun j _ _ h=>absurd h (Nat.not_lt_zero j)⟩
 intro i hinv;refine zK ?_ ?_
 ·intro h30 k30;have hlt:i<l.Got.length:=(by simpa using h30);obtain⟨x,hx⟩:=B2 hlt;obtain⟨y,hy⟩:=B2 (show i<l.Keys.length by omega);refine R6 ?_;refine zq91 ?_;intro b6;refine R10 ?_;refine zq172 ?_;refine zC ?_ ?_
  ·intro h41;have hm:AV0 l.Got l.Keys=false:=(by rw[←Bool.not_eq_true,At8 hle];intro h9;have h8:=h9 i x y hx hy;simp[h8]at h41);rw[hm];refine R5 ?_;exact D1 rfl (A5 rfl qz196)
  intro h41;refine R5 ?_;refine F1 i (i+1) ?_ ?_ (T4 1 A6)
  ·exact⟨by omega,fun j g2 k2 hj e1 e2=>by rcases Nat.lt_or_eq_of_le (Nat.le_of_lt_succ hj)with h9|rfl;exact hinv.2 j g2 k2 h9 e1 e2;rw[hx]at e1;rw[hy]at e2;injection e1 with e1;injection e2 with e2;subst e1;subst e2;simpa using h41⟩
  omega
 intro h30 k30;have hm:AV0 l.Got l.Keys=true:=(At8 hle).2 (fun j g k e1 e2=>hinv.2 j g k (by have h9:=(G1.1 e1).1;omega) e1 e2);rw[hm,Bool.true_and];refine R9 ?_;refine zF rfl call87 (T7 _ _ _) Ax5 ?_;refine R3 ?_;refine L5 rfl (fun hc=>zG rfl call86 (Ar7 _) zS) ?_;refine zq89 ?_;refine zq89 ?_;refine R4 ?_;exact D1 rfl (A5 rfl qz196)
theorem CM9 (c:S6):D6 62 [AV.agg c.cs] (AV.bool (!AA2 c)):=by
  refine B0 func62 rfl ntmps62 rfl ?_;refine R3 ?_;intro b1;refine R5 ?_;refine zF rfl call63 (CU6 _) G6 ?_;exact zq114
theorem CN0 (w:C7)(t:B5)(h:D2 TOp.size t.Ops≤1048576∧D2 H7.size t.Got≤1048576):D6 65 [AV.agg t.cs,AV.eptr w.cs] (AV.bool (!AA4 w t)):=by
  refine B0 func65 rfl ntmps65 rfl ?_;refine R3 ?_;intro b2;refine R6 ?_;refine zF rfl call66 (CM8 w t h.1 h.2) F3 ?_;exact zq114
theorem CN1 (w:C7)(l:C5)(hc:w.Clocks.length≤9)(h:(∀k∈l.Keys,k.length≤12)∧D2 H7.size l.Got≤1048576):D6 68 [AV.agg l.cs,AV.eptr w.cs] (AV.bool (!o4 w l)):=by
  refine B0 func68 rfl ntmps68 rfl ?_;refine R3 ?_;intro b2;refine R6 ?_;refine zF rfl call69 (CE9 w l hc h.1 h.2) F3 ?_;exact zq114
theorem shape_of {w:C7}(h:AJ2 w=true):w.Groups.length=w.Cuts.length+1∧w.Locks.length=w.Cuts.length+1∧w.Promised.length=w.Cuts.length+1:=by
  unfold AJ2 at h;simp only[F0,H6,m6]at h;omega
theorem BA2 (w:C7)(z:WZ w):D6 15 [AV.agg w.cs] (AV.bool (Z4 w)):=by
 have hcl:=z.clocks;have hcu:=z.cuts.1;have hck:=Cm0 z.cuts.2;have hm1:=z.txns.2;have hm2:=z.looks.2;refine B0 func15 rfl ntmps15 rfl ?_;refine R3 ?_;intro b1;refine R20 ?_;refine S0 rfl (fun hc=>zG rfl call34 (BL4 w.Cuts hck) zS) ?_;refine R28 ?_;refine S0 rfl (fun hc=>Ad0 rfl L1 (A7 rfl hc) qz6) ?_;refine zC ?_ ?_
 ·intro h48;have hs:AJ2 w=false:=(by unfold AJ2;simp only[A8]at h48;rw[←Bool.not_eq_true];intro h9;simp only[F0,H6,m6]at h9;obtain⟨⟨⟨⟨⟨a1,a2⟩,a3⟩,a4⟩,a5⟩,a6⟩:=h9;simp only[a2,AC0,H6,BO6,Bool.not_true]at h48;simp at h48;omega);have he:Z4 w=false:=Bj2 (fun h9=>by rw[h9.1]at hs;cases hs);rw[he];refine R5 ?_;exact D1 rfl (A5 rfl qz30)
 intro h48;have hs:AJ2 w=true:=(by unfold AJ2;simp only[A8,v9,AB8,bne_eq_false_iff_eq,AD1]at h48;obtain⟨⟨⟨⟨⟨a1,a2⟩,a3⟩,a4⟩,a5⟩,a6⟩:=h48;rw[a2];simp only[F0,H6,m6];exact⟨⟨⟨⟨⟨by omega,trivial⟩,by omega⟩,by omega⟩,by omega⟩,by omega⟩);have hs2:=shape_of hs;refine R10 ?_;refine E8 [(1,_),(50,_),(51,_)] _ (fun (i:Nat)=>i≤w.Groups.length∧(∀g∈w.Groups.take i,P0 g=true∧g.Reps.length=3)∧(∀l∈w.Locks.take i,AU9 l=true)∧∀p∈w.Promised.take i,o0 p=true) (fun i=>[]) (fun i=>[(52,AV.int i)]) (fun i=>w.Groups.length-i) (0) ?_ (G2 A6) ?_
 ·exact⟨E4 _,fun _ h=>Ax1,fun _ h=>Ax1,fun _ h=>Ax1⟩
 intro i hinv;refine zK ?_ ?_
 ·intro h53 k53;have hlt:i<w.Groups.length:=(by simpa using h53);obtain⟨g,hg⟩:=B2 hlt;have hgm:=C3 hg;have hgs:=(z.groups.2 g hgm).1;obtain⟨k,hk⟩:=B2 (show i<w.Locks.length by omega);have hkm:=C3 hk;have hks:D2 G9.size k≤4194304:=L7 (z.locks.2 k hkm) E5;obtain⟨p,hp⟩:=B2 (show i<w.Promised.length by omega);have hpm:=C3 hp;refine R6 ?_;refine zq101 ?_;intro b5;refine R6 ?_;refine zF rfl call26 (AJ0 _ X9) (A2 (A0 rfl) A9) ?_;refine R11 ?_;refine S0 rfl (fun hc=>C2 rfl K1 i8 (A7 rfl hc) (A7 rfl hc) hk qz6) ?_;refine R1 ?_;refine S0 rfl (fun hc=>zG rfl call59 (CL4 _ X9) (A2 (A7 rfl hc) A9)) ?_;refine R6 ?_;refine S0 rfl (fun hc=>C2 rfl D3 E9 (A7 rfl hc) (A7 rfl hc) hp qz6) ?_;refine R1 ?_;refine S0 rfl (fun hc=>zG rfl call60 (Ar6 _) zS) ?_;refine zC ?_ ?_
  ·intro h83;have he:Z4 w=false:=Bj2 (fun h9=>by simp only[A8]at h83;rw[(h9.2.1.1 g hgm).1,(h9.2.1.1 g hgm).2,h9.2.1.2.1 k hkm,h9.2.1.2.2 p hpm]at h83;revert h83;decide);rw[he];refine R5 ?_;exact D1 rfl (A5 rfl qz30)
  intro h83;simp only[A8,v9,AD1,bne_eq_false_iff_eq]at h83;refine R5 ?_;refine F1 i (i+1) ?_ ?_ (T4 1 A6)
  ·exact⟨by omega,BJ6 hg hinv.2.1 ⟨h83.1.1.1,by omega⟩,BJ6 hk hinv.2.2.1 h83.1.2,BJ6 hp hinv.2.2.2 h83.2⟩
  omega
 intro h53 k53;have hge:w.Groups.length≤i:=(by simpa using h53);have hal:(∀g∈w.Groups,P0 g=true∧g.Reps.length=3)∧(∀l∈w.Locks,AU9 l=true)∧∀p∈w.Promised,o0 p=true:=⟨Ao1 hge hinv.2.1,Ao1 qz7 hinv.2.2.1,Ao1 qz7 hinv.2.2.2⟩;refine R5 ?_;refine zF rfl call60 (Ar6 _) G6 ?_;refine R3 ?_;refine L5 rfl (fun hc=>zG rfl call29 (Z0 _ _ _) (A2 (A7 rfl hc) AT1)) ?_;refine R16 ?_;refine L5 rfl (fun hc=>zG rfl call61 (BZ0 _ _ _ Au5) (A2 (A7 rfl hc) (A2 (BC6 call62 (fun c (_:True)=>CM9 c)) A9))) ?_;refine R5 ?_;refine L5 rfl (fun hc=>Ag8 rfl rfl G6) ?_;refine L5 rfl (fun hc=>n2 rfl call64 rfl (BN7 _ _ _ Au5) (T9 _) (N7 (evb (A7 rfl hc)) (N7 (AC7 (AV7 0 (A7 rfl hc) rfl) (AL4 call65 (fun t (h:D2 TOp.size t.Ops≤1048576∧D2 H7.size t.Got≤1048576)=>CN0 _ t h))) o8))) ?_;refine R5 ?_;refine L5 rfl (fun hc=>Ag8 rfl rfl G6) ?_;refine L5 rfl (fun hc=>n2 rfl call67 rfl (BK9 _ _ _ Au5) (T9 _) (N7 (evb (A7 rfl hc)) (N7 (AC7 (AV7 0 (A7 rfl hc) rfl) (AL4 call68 (fun l (h:(∀k∈l.Keys,k.length≤12)∧D2 H7.size l.Got≤1048576)=>CN1 _ l hcl h))) o8))) ?_;refine R5 ?_;exact D1 rfl (A5 rfl qz30)
theorem Ce7 (l:List Int):(l.all fun g=>within g 0 100000)=true↔∀p∈l,o0 p=true:=by rw[V7];exact Iff.rfl
theorem Cy8 (w:C7)(z:WZ w):D6 21 [AV.agg w.cs] (AV.bool (Z4 w)):=by
 have hcl:=z.clocks;have hcu:=z.cuts.1;have hck:=Cm0 z.cuts.2;have htl:=z.txns.1;have hll:=z.looks.1;refine B0 func21 rfl ntmps21 rfl ?_;refine R3 ?_;intro b1;refine R15 ?_;refine zF rfl call45 (BS7 w.Cuts hck) G6 ?_;refine R17 ?_;refine S0 rfl (fun hc=>Ad0 rfl L1 (A7 rfl hc) qz6) ?_;refine R19 ?_;refine S0 rfl (fun hc=>zG rfl call80 (CK7 _ _ _) (A2 (A7 rfl hc) AT1)) ?_;refine zC ?_ ?_
 ·intro h58;have he:Z4 w=false:=Bj2 (fun h9=>by simp only[A8]at h58;have hs:=h9.1;unfold AJ2 at hs;simp only[F0,H6,m6]at hs;obtain⟨⟨⟨⟨⟨a1,a2⟩,a3⟩,a4⟩,a5⟩,a6⟩:=hs;rw[a2,(Ce7 _).2 h9.2.1.2.2]at h58;simp at h58;omega);rw[he];exact zq160
 intro h58;simp only[A8,v9,AB8,bne_eq_false_iff_eq,AD1]at h58;have hs:AJ2 w=true:=(by unfold AJ2;obtain⟨⟨⟨⟨⟨⟨a1,a2⟩,a3⟩,a4⟩,a5⟩,a6⟩,a7⟩:=h58;rw[a1];simp only[F0,H6,m6];exact⟨⟨⟨⟨⟨by omega,trivial⟩,by omega⟩,by omega⟩,by omega⟩,by omega⟩);have hpr:=(Ce7 _).1 h58.2;refine R10 ?_;refine E8 [(1,_),(60,_),(61,_)] _ (fun (i:Nat)=>i≤w.Groups.length∧(∀g∈w.Groups.take i,P0 g=true∧g.Reps.length=3)∧(∀l∈w.Locks.take i,AU9 l=true)) (fun i=>[]) (fun i=>[(62,AV.int i)]) (fun i=>w.Groups.length-i) (0) ?_ (G2 A6) ?_
 ·exact⟨E4 _,fun _ h=>Ax1,fun _ h=>Ax1⟩
 intro i hinv;refine zK ?_ ?_
 ·intro h63 k63;have hlt:i<w.Groups.length:=(by simpa using h63);obtain⟨g,hg⟩:=B2 hlt;have hgm:=C3 hg;have hgs:=(z.groups.2 g hgm).1;obtain⟨k,hk⟩:=B2 (show i<w.Locks.length by omega);have hkm:=C3 hk;have hks:D2 G9.size k≤4194304:=L7 (z.locks.2 k hkm) E5;refine R6 ?_;refine zq101 ?_;intro b5;refine R6 ?_;refine zF rfl call81 (AS0 _ X9) (A2 (A0 rfl) A9) ?_;refine R11 ?_;refine S0 rfl (fun hc=>C2 rfl K1 i8 (A7 rfl hc) (A7 rfl hc) hk qz6) ?_;refine R1 ?_;refine S0 rfl (fun hc=>zG rfl call82 (Ch7 _ X9) (A2 (A7 rfl hc) A9)) ?_;refine zC ?_ ?_
  ·intro h84;have he:Z4 w=false:=Bj2 (fun h9=>by simp only[A8]at h84;rw[(h9.2.1.1 g hgm).1,(h9.2.1.1 g hgm).2,h9.2.1.2.1 k hkm]at h84;revert h84;decide);rw[he];exact zq160
  intro h84;simp only[A8,v9,AD1,bne_eq_false_iff_eq]at h84;refine R5 ?_;refine F1 i (i+1) ?_ ?_ (T4 1 A6)
  ·exact⟨by omega,BJ6 hg hinv.2.1 ⟨h84.1.1,by omega⟩,BJ6 hk hinv.2.2 h84.2⟩
  omega
 intro h63 k63;have hge:w.Groups.length≤i:=(by simpa using h63);have hal:(∀g∈w.Groups,P0 g=true∧g.Reps.length=3)∧(∀l∈w.Locks,AU9 l=true):=⟨Ao1 hge hinv.2.1,Ao1 qz7 hinv.2.2⟩;refine R10 ?_;refine E8 [(1,_),(87,_),(88,_)] _ (fun (i:Nat)=>i≤w.Clocks.length∧∀c∈w.Clocks.take i,AA2 c=true) (fun i=>[]) (fun i=>[(89,AV.int i)]) (fun i=>w.Clocks.length-i) (0) ?_ (G2 A6) ?_
 ·exact⟨E4 _,fun _ h=>Ax1⟩
 intro i hinv;refine zK ?_ ?_
 ·intro h90 k90;have hlt:i<w.Clocks.length:=(by simpa using h90);obtain⟨c,hc⟩:=B2 hlt;refine R5 ?_;refine A1 rfl (C2 rfl J0 u6 zA zA hc qz1) ?_;refine R2 ?_;intro b7;refine R5 ?_;refine zF rfl call83 (Cw9 _) G6 ?_;refine zC ?_ ?_
  ·intro h95;have he:Z4 w=false:=Bj2 (fun h9=>by rw[h9.2.2.2.1 c (C3 hc)]at h95;cases h95);rw[he];exact zq160
  intro h95;refine R5 ?_;refine F1 i (i+1) ?_ ?_ (T4 1 A6)
  ·exact⟨by omega,BJ6 hc hinv.2 (by simpa using h95)⟩
  omega
 intro h90 k90;have hcs:=Ao1 (show w.Clocks.length≤i by simpa using h90) hinv.2;refine R10 ?_;refine E8 [(1,_),(98,_),(99,_)] _ (fun (i:Nat)=>i≤w.Txns.length∧∀t∈w.Txns.take i,AA4 w t=true) (fun i=>[]) (fun i=>[(100,AV.int i)]) (fun i=>w.Txns.length-i) (0) ?_ (G2 A6) ?_
 ·exact⟨E4 _,fun _ h=>Ax1⟩
 intro i hinv;refine zK ?_ ?_
 ·intro h101 k101;have hlt:i<w.Txns.length:=(by simpa using h101);obtain⟨t,ht⟩:=B2 hlt;have htz:=z.txns.2 t (C3 ht);have htz1:=htz.1;have htz2:=htz.2;refine R5 ?_;refine zq156 ?_;intro b9;refine R6 ?_;refine zF rfl call84 (DH5 _ _ AI6 AI6) (A2 (A0 rfl) (A2 (A0 rfl) A9)) ?_;refine zC ?_ ?_
  ·intro h107;have he:Z4 w=false:=Bj2 (fun h9=>by rw[h9.2.2.2.2.1 t (C3 ht)]at h107;cases h107);rw[he];exact zq160
  intro h107;refine R5 ?_;refine F1 i (i+1) ?_ ?_ (T4 1 A6)
  ·exact⟨by omega,BJ6 ht hinv.2 (by simpa using h107)⟩
  omega
 intro h101 k101;have hts:=Ao1 (show w.Txns.length≤i by simpa using h101) hinv.2;refine R10 ?_;refine E8 [(1,_),(110,_),(111,_)] _ (fun (i:Nat)=>i≤w.Looks.length∧∀l∈w.Looks.take i,o4 w l=true) (fun i=>[]) (fun i=>[(112,AV.int i)]) (fun i=>w.Looks.length-i) (0) ?_ (G2 A6) ?_
 ·exact⟨E4 _,fun _ h=>Ax1⟩
 intro i hinv;refine zK ?_ ?_
 ·intro h113 k113;have hlt:i<w.Looks.length:=(by simpa using h113);obtain⟨l,hl⟩:=B2 hlt;have hlz:=z.looks.2 l (C3 hl);have hlz1:=hlz.1;have hlz2:=hlz.2;refine R5 ?_;refine A1 rfl (C2 rfl j8 AJ8 zA zA hl qz1) ?_;refine R2 ?_;intro b11;refine R6 ?_;refine zF rfl call85 (Cy7 _ _ AI6 AI6 AI6) (A2 (A0 rfl) (A2 (A0 rfl) A9)) ?_;refine zC ?_ ?_
  ·intro h119;have he:Z4 w=false:=Bj2 (fun h9=>by rw[h9.2.2.2.2.2 l (C3 hl)]at h119;cases h119);rw[he];exact zq160
  intro h119;refine R5 ?_;refine F1 i (i+1) ?_ ?_ (T4 1 A6)
  ·exact⟨by omega,BJ6 hl hinv.2 (by simpa using h119)⟩
  omega
 intro h113 k113;have hls:=Ao1 (show w.Looks.length≤i by simpa using h113) hinv.2;refine R5 ?_;refine zF rfl call86 (Ar7 _) G6 ?_;refine R3 ?_;refine L5 rfl (fun hc=>zG rfl call87 (T7 _ _ _) (A2 (A7 rfl hc) AT1)) ?_;refine R16 ?_;exact D1 rfl (A5 rfl CR4)
theorem Ah7 (r:D8)(h:0≤r.Sure∧r.Sure≤r.Log.length):D6 28 [AV.agg r.cs] (AV.list 8 ((r.Log.take r.Sure.toNat).map F4.cs)):=by
  refine B0 func28 rfl ntmps28 rfl ?_;refine R3 ?_;intro b1;refine A1 rfl (G7 rfl (j0 (sz:=8))) ?_;refine R7 ?_;refine A1 rfl (AG5 rfl L3 Q1 zA zA qz7 (by (try simp only[A8]);omega)) ?_;refine R3 ?_;exact D1 rfl (A5 rfl (by first|rfl|exact F2 (AV.list 8) (by rw[List.map_take])))
theorem Df8 (g:C1)(gg:GG g):D6 145 [AV.agg g.cs] (AV.agg (AY8 g).cs):=by
 have h0l:0<g.Reps.length∧g.Reps.length≤5:=by have:=gg.many;omega
 have hr0:=Z3 (g:=g) (r:=0) ⟨Int.le_refl _,by omega⟩;refine B0 func145 rfl ntmps145 rfl ?_;refine R3 ?_;intro b1;refine R1 ?_;intro b2;refine R5 ?_;refine A1 rfl (C2 rfl D4 F9 zA L1 hr0 qz1) ?_;refine R2 ?_;intro b3;refine R11 ?_;refine zL [0] ?_;refine K5 [(2,_),(3,_),(11,_),(12,_)] _ (fun (i:Nat) (p:D8)=>i≤g.Reps.length∧(g.Reps.take i).foldl (fun b r=>if b.Sure<r.Sure then r else b) (M3 g 0)=p) (fun i p=>[.box b3 70 p.cs]) (fun i p=>[(13,AV.int i)]) (fun i p=>g.Reps.length-i) (0) (M3 g 0) ?_ (I1 B7 A6) ?_
 ·exact zq4
 intro i p hinv;refine zK ?_ ?_
 ·intro h14 k14;have hlt:i<g.Reps.length:=At1;obtain⟨x,hx⟩:=B2 hlt;refine R5 ?_;refine zq116 ?_;refine R2 ?_;intro b5;refine zK ?_ ?_
  ·intro h21 k21;refine R8 ?_;refine H5 i p (i+1) (x) ?_ ?_ (Le.trans (B4 [0,0] rfl) (D5 1 B7 A6))
   ·exact⟨by omega,by rw[BW6 hx,hinv.2,D9 qz7]⟩
   omega
  intro h21 k21;refine R5 ?_;refine H5 i p (i+1) (p) ?_ ?_ (Le.trans (B4 [0,0] rfl) (D5 1 B7 A6))
  ·exact⟨by omega,by rw[BW6 hx,hinv.2,D0 qz7]⟩
  omega
 intro h14 k14;have hge:g.Reps.length≤i:=At1;have hb:AY8 g=p:=(by have h9:=hinv.2;rw[S7 hge]at h9;exact h9);rw[hb];refine R7 ?_;exact D1 rfl (F5 (ys:=_) 1 rfl rfl isAgg70 F9 rfl)
theorem Bt0 (l:List F4)(hl:l.length≤60)(hg:∀e∈l,T8 e.Rec=true):D6 144 [AV.list 8 (l.map F4.cs)] (AV.agg (Z2 V0 (AM2 l)).cs):=by
 have hgr:∀r∈AM2 l,T8 r=true:=fun r hr=>by obtain⟨e,he,rfl⟩:=n6.1 hr;exact hg e he
 have hrl:(AM2 l).length≤60:=by unfold AM2;rw[A8];exact hl
 refine B0 func144 rfl ntmps144 rfl ?_;refine R3 ?_;intro b2;refine R3 ?_;refine S3 rfl rfl rfl rfl AN6 y9 ?_;intro v8;refine R10 ?_;refine zL [0] ?_;refine K5 [(2,_),(9,_),(10,_)] _ (fun (i:Nat) (v:Value)=>i≤l.length) (fun i v=>[.arr v 167 7 ((AM2 (l.take i)).map N5.cs)]) (fun i v=>[(3,AV.is v),(11,AV.int i)]) (fun i v=>l.length-i) (0) (v8) ?_ (I1 B7 A6) ?_
 ·exact E4 _
 intro i v hinv;refine zK ?_ ?_
 ·intro h12 k12;have hlt:i<l.length:=Ax3;obtain⟨x,hx⟩:=B2 hlt;have hri:(AM2 (l.take i)).length≤60:=qz206;refine R5 ?_;refine zq96 ?_;refine R2 ?_;intro b5;refine R5 ?_;refine A1 rfl (BC4 _ 0 rfl zA rfl AK0 y9 rfl rfl) ?_;refine R1 ?_;refine I0 (by':=88) 1 rfl rfl rfl rfl AN6 type167 rfl rfl rfl rfl rfl rfl zA zA rfl (by simp only[A8,X4];omega) ?_;intro v19_1;refine R6 ?_;refine H5 i v (i+1) (v19_1) ?_ ?_ (Le.trans (B4 [0,0] rfl) (D5 1 (by (rw[Cd3 hx,Y3];rfl)) A6))
  ·exact qz7
  omega
 intro h12 k12;have hge:l.length≤i:=Ax3;rw[S7 hge];refine R4 ?_;refine Bv3 (AI8 [0] 22 rfl rfl (K2 (C3 (i:=0) rfl) G3) Af6) ?_;refine zI [] rfl call207 (DD7 (AM2 l) hgr hrl) G6 rfl ?_;intro x23 ok23;refine R4 ?_;intro b6;refine R9 ?_;exact D1 rfl (F5 (ys:=_) 2 rfl rfl S5 K8 rfl)
theorem CV5 (g:C1)(gg:GG g):D6 71 [AV.agg g.cs] (AV.agg (Ai8 g).cs):=by
  have hgr:=gg.reps _ (Bw4 gg);have htl:((AY8 g).Log.take (AY8 g).Sure.toNat).length≤60:=by have:=hgr.len;rw[H0];omega
  refine B0 func71 rfl ntmps71 rfl ?_;refine R3 ?_;intro b1;refine R1 ?_;intro b2;refine R4 ?_;refine zF rfl call145 (Df8 g gg) G6 ?_;refine zF rfl call28 (Ah7 (AY8 g) hgr.sure) G6 ?_;refine zF rfl call144 (Bt0 _ htl (fun e he=>(hgr.ents e (AZ9 he)).2.2)) G6 ?_;refine R3 ?_;exact D1 rfl (F5 (ys:=_) 0 rfl rfl S5 K8 rfl)
theorem CV6 (w:C7)(hl:w.Groups.length≤3)(hg:∀g∈w.Groups,GG g):M0 17 [AV.agg w.cs] [] (fun _:Value=>True) (fun v=>[.arr v 64 4 ((O6 w).map E1.cs)]) (fun v=>AV.is v):=by
 refine C8 func17 rfl ntmps17 rfl ?_;refine R3 ?_;intro b1;refine zq88 ?_;refine R3 ?_;refine S3 rfl rfl rfl rfl j9 K8 ?_;intro v6;refine R11 ?_;refine zL [0] ?_;refine K5 [(2,_),(8,_),(9,_)] _ (fun (i:Nat) (v:Value)=>i≤w.Groups.length) (fun i v=>[.arr v 64 4 (((w.Groups.take i).map Ai8).map E1.cs)]) (fun i v=>[(3,AV.is v),(10,AV.int i)]) (fun i v=>w.Groups.length-i) (0) (v6) ?_ (I1 B7 A6) ?_
 ·exact E4 _
 intro i v hinv;refine zK ?_ ?_
 ·intro h11 k11;have hlt:i<w.Groups.length:=(by simpa using h11);obtain⟨g,hgx⟩:=B2 hlt;have hgg:=hg g (C3 hgx);refine R5 ?_;refine A1 rfl (C2 rfl F8 C6 zA zA hgx qz1) ?_;refine R2 ?_;intro b5;refine R5 ?_;refine zF rfl call71 (CV5 g hgg) G6 ?_;refine R1 ?_;refine I0 (by':=80) 1 rfl rfl rfl rfl j9 type64 rfl rfl rfl rfl rfl rfl zA zA rfl qz178 ?_;intro v18_1;refine R6 ?_;refine H5 i v (i+1) (v18_1) ?_ ?_ (Le.trans (B4 [0,0] rfl) (D5 1 (by (rw[X3,hgx,Y3,Y3];rfl)) A6))
  ·exact qz7
  omega
 intro h11 k11;have hge:w.Groups.length≤i:=(by simpa using h11);rw[S7 hge];exact zq118
theorem BW9 (w:C7)(hl:w.Groups.length≤3)(hg:∀g∈w.Groups,GG g):D6 17 [AV.agg w.cs] (AV.list 4 ((O6 w).map E1.cs)):=
  J5 (CV6 w hl hg) fun v _=>K2 (i6.2 rfl) G3
theorem world_states {w:C7}(z:WZ w)(h:Z4 w=true):(∀g∈w.Groups,GG g)∧As4 (O6 w)∧(O6 w).length≤10∧∀s∈O6 w,∀c∈s.Cells,c.Key∈AI5:=by
  have hp:=At9.1 h;have hg:∀g∈w.Groups,GG g:=fun g hgm=>o9.1 (hp.2.1.1 g hgm).1;refine⟨hg,fun s hsm=> ?_,?_,fun s hsm=> ?_⟩
  ·obtain⟨g,hgm,rfl⟩:=n6.1 hsm;exact(BV9 (hg g hgm)).cells
  ·have:=z.groups.1;unfold O6;rw[A8];omega
  ·obtain⟨g,hgm,rfl⟩:=n6.1 hsm;exact(Da3 (hg g hgm) (z.groups.2 g hgm).2).cells
theorem CV7 (a b:F4):D6 169 [AV.agg a.cs,AV.agg b.cs] (AV.bool (decide (a=b))):=by
  refine B0 func169 rfl ntmps169 rfl ?_;refine R3 ?_;intro b2;refine R1 ?_;intro b3;refine R11 ?_;refine L5 rfl (fun hc=>BC4 _ 1 rfl (A7 rfl hc) rfl AK0 y9 rfl rfl) ?_;refine R1 ?_;refine L5 rfl (fun hc=>BC4 _ 0 rfl (A7 rfl hc) rfl AK0 y9 rfl rfl) ?_;refine L5 rfl (fun hc=>zG rfl call232 (Cr9 a.Rec b.Rec) zS) ?_;refine R4 ?_;exact D1 rfl (A5 rfl (by exact F2 AV.bool (DV7 a b)))
theorem Bm9 (a b:List F4)(pre:F4→F4→Prop)(hp:∀x y,pre x y):D6 168 [AV.list 8 (a.map F4.cs),AV.list 8 (b.map F4.cs),AV.fun2 Tryz.prog pre (fun a=>AV.agg a.cs) (fun b=>AV.agg b.cs) (fun a b=>AV.bool (decide (a=b)))] (AV.bool (decide (a=b))):=by
 refine B0 func168 rfl ntmps168 rfl ?_;refine Y0 (t:=0) rfl fun hl=> ?_;try simp only[A8]at hl
 refine zC ?_ ?_
 ·intro h14;have k14:=Af4 h14;(try simp only[A8]at k14);have hab:a≠b:=by intro hc;subst hc;exact k14 rfl
  exact zq93
 intro h14;have k14:=AI9 h14;(try simp only[A8]at k14);have heq:a.length=b.length:=by omega
 refine R9 ?_;refine E8 [(1,_),(2,_),(15,_),(16,_)] _ (fun (i:Nat)=>i≤a.length∧a.take i=b.take i) (fun i=>[]) (fun i=>[(17,AV.int i)]) (fun i=>a.length-i) (0) ?_ (G2 A6) ?_
 ·exact zq4
 intro i hinv;refine zK ?_ ?_
 ·intro h18 k18;have hlt:i<a.length:=by omega
  obtain⟨x,hx⟩:=B2 hlt;obtain⟨y,hy⟩:=B2 (show i<b.length by omega);refine R6 ?_;refine zq96 ?_;refine R2 ?_;intro b8;refine R7 ?_;refine A1 rfl (C2 rfl L3 Q1 zA zA hy qz1) ?_;refine R2 ?_;intro b9;refine R7 ?_;refine A1 rfl (CB8 rfl zA x y (hp x y) zA zA) ?_;refine zC ?_ ?_
  ·intro h30;have hab:a≠b:=by intro hc;subst hc;rw[hx]at hy;injection hy with hy;subst hy;simp at h30
   exact zq93
  intro h30;refine R5 ?_;refine F1 i (i+1) ?_ ?_ (T4 2 A6)
  ·exact⟨by omega,Ay3 hinv.2 hx (by rw[hy];congr 1;simp at h30;exact h30.symm)⟩
  omega
 intro h18 k18;have hge:a.length≤i:=by omega
 have hab:a=b:=BN4 heq hinv.2 hge;refine R6 ?_;exact D1 rfl (A5 rfl BK5)
theorem CF0 (a b:List F4):D6 102 [AV.list 8 (a.map F4.cs),AV.list 8 (b.map F4.cs)] (AV.bool (decide (a=b))):=by
  refine B0 func102 rfl ntmps102 rfl ?_;refine R8 ?_;refine zF rfl call168 (Bm9 a b (fun _ _=>True) (fun _ _=>trivial)) (A2 zA (A2 zA (A2 (Ba4 call169 (fun a b (_:True)=>CV7 a b)) A9))) ?_;exact zq218
theorem Ap9 (l p:List F4):D6 27 [AV.list 8 (l.map F4.cs),AV.list 8 (p.map F4.cs)] (AV.bool (AQ5 l p)):=by
 refine B0 func27 rfl ntmps27 rfl ?_;refine Y0 (t:=0) rfl fun hl=> ?_;try simp only[A8]at hl
 refine Y0 (t:=1) rfl fun hp=> ?_;try simp only[A8]at hp
 refine R15 ?_;refine L5 rfl (fun hc=>AG5 rfl L3 Q1 (A7 rfl hc) (A7 rfl hc) qz7 (by simp only[A8]at*;simp at hc;omega)) ?_;refine R1 ?_;refine L5 rfl (fun hc=>zG rfl call102 (CF0 _ p) zS) ?_;refine R4 ?_;exact D1 rfl (A5 rfl (by exact F2 AV.bool (by unfold AQ5;rw[A8,A8,o5];congr 1;exact decide_eq_decide.2 qz7)))
theorem CA3 (g:C1)(hs:g.size≤1048576):D6 8 [AV.agg g.cs] (AV.bool (Ac7 g)):=by
 refine B0 func8 rfl ntmps8 rfl ?_;refine R3 ?_;intro b1;refine R6 ?_;refine zF rfl call26 (AJ0 g hs) G6 ?_;refine zC ?_ ?_
 ·intro h9;rw[(Cy0 (show P0 g=false by simpa using h9)).1];exact zq40
 intro h9;have hg:P0 g=true:=(by simpa using h9);have gg:=o9.1 hg;have hmany:=gg.many;refine R10 ?_;refine E8 [(1,_),(11,_),(12,_)] _ (fun (i:Nat)=>i≤g.Reps.length∧(g.Reps.take i).all (As8 g)=true) (fun i=>[]) (fun i=>[(13,AV.int i)]) (fun i=>g.Reps.length-i) (0) ?_ (I1 B7 A6) ?_
 ·exact zq4
 intro i hinv;refine zK ?_ ?_
 ·intro h14 k14;have hout:=hinv.2;have hlt:i<g.Reps.length:=At1;obtain⟨a,ha⟩:=B2 hlt;have hga:=(gg.reps a (C3 ha)).sure;refine R5 ?_;refine A1 rfl (C2 rfl D4 F9 zA zA ha qz1) ?_;refine R2 ?_;intro b4;refine R11 ?_;refine E8 [(1,_),(4,_),(11,_),(12,_),(13,_),(14,_),(15,_),(16,_),(17,_),(18,_),(19,_)] _ (fun (j:Nat)=>j≤g.Reps.length∧(g.Reps.take j).all (BU2 a)=true) (fun j=>[]) (fun j=>[(20,AV.int j)]) (fun j=>g.Reps.length-j) (0) ?_ (I1 B7 A6) ?_
  ·exact zq4
  intro j hinv;refine zK ?_ ?_
  ·intro h21 k21;have hlt1:j<g.Reps.length:=(by simpa using h21);obtain⟨b,hb⟩:=B2 hlt1;have hgb:=(gg.reps b (C3 hb)).sure;refine R5 ?_;refine A1 rfl (C2 rfl D4 F9 zA zA hb qz1) ?_;refine R2 ?_;intro b6;refine R5 ?_;refine B3 rfl rfl (zG rfl call28 (Ah7 a hga) G6) ?_;refine R1 ?_;refine B3 rfl rfl (zG rfl call28 (Ah7 b hgb) G6) ?_;refine B3 rfl rfl (zG rfl call27 (Ap9 (AN3 a) (AN3 b)) F3) ?_;refine R3 ?_;refine M1 rfl (Q3 rfl rfl rfl) (fun hc=>zG rfl call28 (Ah7 b hgb) zS) ?_;refine R1 ?_;refine M1 rfl (Q3 rfl rfl rfl) (fun hc=>zG rfl call28 (Ah7 a hga) zS) ?_;refine M1 rfl (Q3 rfl rfl rfl) (fun hc=>zG rfl call27 (Ap9 (AN3 b) (AN3 a)) zS) ?_;refine zC ?_ ?_
   ·intro h37;have hqb:BU2 a b=false:=qz161;rw[Cx8 ha (by unfold As8;rw[Ap8 hb hqb];rfl)];exact zq40
   intro h37;have hqb:BU2 a b=true:=qz161;refine R5 ?_;refine F1 j (j+1) ?_ ?_ (Le.trans (B4 [0] rfl) (D5 1 B7 A6))
   ·exact⟨by omega,AU8 hb hinv.2 hqb⟩
   omega
  intro h21 k21;have hge1:g.Reps.length≤j:=(by simpa using h21);have hallq:=hinv.2;rw[S7 hge1]at hallq;refine R11 ?_;refine M1 rfl (Q3 rfl rfl rfl) (fun hc=>C2 rfl D4 F9 (A7 rfl hc) (A7 rfl hc) (Z3 (g:=g) (r:=g.Lead) (by simp at hc;have h8:=gg.lead;omega)) BF7) ?_;refine R3 ?_;refine M1 rfl (Q3 rfl rfl rfl) (fun hc=>zG rfl call28 (Ah7 a hga) zS) ?_;refine M1 rfl (Q3 rfl rfl rfl) (fun hc=>zG rfl call27 (Ap9 (M3 g g.Lead).Log (AN3 a)) zS) ?_;refine zC ?_ ?_
  ·intro h54;have hpa:As8 g a=false:=(by unfold As8;rw[show (g.Reps.all fun b=>BU2 a b)=true from hallq,Bool.true_and];simp only[F0,H6,n5]at h54;rw[h54.2,AC1 qz7];rfl);rw[Cx8 ha hpa];exact zq40
  intro h54;have hpa:As8 g a=true:=(by unfold As8;rw[show (g.Reps.all fun b=>BU2 a b)=true from hallq,Bool.true_and];by_cases hl:g.Lead<0;(rw[W6 hl];rfl);(rw[W6 (show g.Lead≥0 by omega)]at h54;cases hp:AQ5 (M3 g g.Lead).Log (AN3 a)<;>rw[hp]at h54<;>first|(rw[Bool.or_true];done)|cases h54));refine R5 ?_;refine F1 i (i+1) ?_ ?_ (Le.trans (B4 [0] rfl) (D5 1 B7 A6))
  ·exact⟨by omega,AU8 ha hout hpa⟩
  omega
 intro h14 k14;have hge:g.Reps.length≤i:=At1;have hall:=hinv.2;rw[S7 hge]at hall;rw[Df2 hg hall];exact zq105
theorem Bc8 (a b:List F4)(n:Int)(h0:0≤n∧n≤1048576)(hs:∀e∈a,e.size≤1048576):D6 88 [AV.list 8 (a.map F4.cs),AV.list 8 (b.map F4.cs),AV.int n] (AV.bool (AC4 a b n.toNat)):=by
  obtain⟨m,rfl⟩:∃m:Nat,n=(m:Int):=⟨n.toNat,by omega⟩;exact Bc5 a b m hs qz7
theorem Cy9 (g:C1)(hs:g.size≤1048576):D6 22 [AV.agg g.cs] (AV.bool (Aq5 g)):=by
 refine B0 func22 rfl ntmps22 rfl ?_;refine R3 ?_;intro b1;refine R6 ?_;refine zF rfl call81 (AS0 g hs) G6 ?_;refine zC ?_ ?_
 ·intro h9;rw[(Cy0 (show P0 g=false by simpa using h9)).2];exact zq40
 intro h9;have hg:P0 g=true:=(by simpa using h9);have gg:=o9.1 hg;have hmany:=gg.many;refine R7 ?_;refine E8 [(1,_)] _ (fun (i:Nat)=>i≤g.Reps.length∧(g.Reps.take i).all (As9 g)=true) (fun i=>[]) (fun i=>[(3,AV.int i)]) (fun i=>g.Reps.length-i) (0) ?_ (I1 B7 A6) ?_
 ·exact zq4
 intro i hinv;refine zK ?_ ?_
 ·intro h14 k14;have hout:=hinv.2;have hlt:i<g.Reps.length:=At1;obtain⟨a,ha⟩:=B2 hlt;have hgr:=gg.reps a (C3 ha);have hga:=hgr.sure;have hla:=hgr.len;refine R8 ?_;refine A1 rfl (C2 rfl D4 F9 zA zA ha qz1) ?_;refine R2 ?_;intro b4;refine R8 ?_;refine E8 [(1,_),(3,_),(4,_),(10,_),(11,_),(12,_),(13,_),(14,_),(17,_),(18,_),(19,_),(20,_),(21,_)] _ (fun (j:Nat)=>j≤g.Reps.length∧(g.Reps.take j).all (BK4 a)=true) (fun j=>[]) (fun j=>[(5,AV.int j)]) (fun j=>g.Reps.length-j) (0) ?_ (I1 B7 A6) ?_
  ·exact zq4
  intro j hinv;refine zK ?_ ?_
  ·intro h26 k26;have hlt1:j<g.Reps.length:=(by simpa using h26);obtain⟨b,hb⟩:=B2 hlt1;have hgb:=(gg.reps b (C3 hb)).sure;refine R8 ?_;refine A1 rfl (C2 rfl D4 F9 zA zA hb qz1) ?_;refine R2 ?_;intro b6;refine R12 ?_;refine B3 rfl rfl (zG rfl call89 (Br0 a.Sure b.Sure) F3) ?_;refine B3 rfl rfl (zG rfl call88 (Bc8 a.Log b.Log (As0 a.Sure b.Sure) (by rw[Bj4];omega) (fun e he=>DM6 hs (C3 ha) he)) AD5) ?_;refine zC ?_ ?_
   ·intro h44;have hqb:BK4 a b=false:=(by unfold BK4;rw[←Bj4];simpa using h44);rw[Cx9 ha (by unfold As9;rw[Ap8 hb hqb];rfl)];exact zq40
   intro h44;have hqb:BK4 a b=true:=(by unfold BK4;rw[←Bj4];simpa using h44);refine R6 ?_;refine F1 j (j+1) ?_ ?_ (Le.trans (B4 [0] rfl) (D5 1 B7 A6))
   ·exact⟨by omega,AU8 hb hinv.2 hqb⟩
   omega
  intro h26 k26;have hge1:g.Reps.length≤j:=(by simpa using h26);have hallq:=hinv.2;rw[S7 hge1]at hallq;refine R11 ?_;refine M1 rfl (Q3 rfl rfl rfl) (fun hc=>C2 rfl D4 F9 (A7 rfl hc) (A7 rfl hc) (Z3 (g:=g) (r:=g.Lead) (by simp at hc;have h8:=gg.lead;omega)) BF7) ?_;refine R6 ?_;refine M1 rfl (Q3 rfl rfl rfl) (fun hc=>zG rfl call88 (Bc8 (M3 g g.Lead).Log a.Log a.Sure qz7 (fun e he=>DM6 hs (C3 (Z3 (g:=g) (r:=g.Lead) (by simp at hc;have h8:=gg.lead;omega))) he)) zS) ?_;refine zC ?_ ?_
  ·intro h62;have hpa:As9 g a=false:=(by unfold As9;rw[show (g.Reps.all fun b=>BK4 a b)=true from hallq,Bool.true_and];simp only[F0,H6,n5]at h62;rw[h62.2,AC1 qz7];rfl);rw[Cx9 ha hpa];exact zq40
  intro h62;have hpa:As9 g a=true:=(by unfold As9;rw[show (g.Reps.all fun b=>BK4 a b)=true from hallq,Bool.true_and];by_cases hl:g.Lead<0;(rw[W6 hl];rfl);(rw[W6 (show g.Lead≥0 by omega)]at h62;cases hp:AC4 (M3 g g.Lead).Log a.Log a.Sure.toNat<;>rw[hp]at h62<;>first|(rw[Bool.or_true];done)|cases h62));refine R6 ?_;refine F1 i (i+1) ?_ ?_ (Le.trans (B4 [0] rfl) (D5 1 B7 A6))
  ·exact⟨by omega,AU8 ha hout hpa⟩
  omega
 intro h14 k14;have hge:g.Reps.length≤i:=At1;have hall:=hinv.2;rw[S7 hge]at hall;rw[Df3 hg hall];exact zq105
theorem Bc9 (s:Str)(hs:s.length≤1048576):D6 213 [AV.wt Al6 (AV.str s)] (AV.tup [AV.int (l5N s).1,AV.bool (l5N s).2]):=by
  rw[←Da0];refine B0 Tryz.func213 rfl Tryz.ntmps213 rfl ?_;refine zq195 ?_;refine R8 ?_;refine A1 rfl (Ad5 0 rfl rfl Tryz.call260 rfl (Cw6 _ _ _ X9) (A2 (A0 rfl) (A2 L1 (A2 L1 A9))) BQ8) ?_;refine R6 ?_;exact zq111
theorem Cz0 (k:Str)(buf:List B1)(got:List H7)(ha:adj X6 buf=true)(hb:buf.length≤1000):D6 211 [AV.str k,AV.list 3 (buf.map B1.cs),AV.list 3 (got.map H7.cs)] (AV.tup [AV.str (C9 buf got k).1,AV.bool (C9 buf got k).2.1,AV.bool (C9 buf got k).2.2]):=by
 refine B0 func211 rfl ntmps211 rfl ?_;refine Y0 (t:=2) rfl fun hlg=> ?_;try simp only[A8]at hlg
 refine zq185 ?_;refine R8 ?_;refine zF rfl call258 (BD9 buf k qz7) F3 ?_;refine zC ?_ ?_
 ·intro h19;obtain⟨w,hw,hwk⟩:=BR6.1 (show BE6 buf k=true by simpa using h19);rw[Df4 ha hw hwk];refine R4 ?_;refine B3 rfl rfl (C2 rfl G5 M8 zA zA hw qz1) ?_;refine R4 ?_;refine B3 rfl rfl (C2 rfl G5 M8 zA zA hw qz1) ?_;refine R8 ?_;exact zq190
 intro h19;have hnb:=DV8 ha (show BE6 buf k=false by simpa using h19);refine R9 ?_;refine E8 [(0,_),(31,_),(32,_)] _ (fun (j:Nat)=>j≤got.length∧got.find? (fun g=>g.Key==k)=(got.drop j).find? (fun g=>g.Key==k)) (fun j=>[]) (fun j=>[(33,AV.int j)]) (fun j=>got.length-j) (0) ?_ (G2 A6) ?_
 ·exact zq4
 intro j hinv;refine zK ?_ ?_
 ·intro h34 k34;have hlt1:j<got.length:=(by simpa using h34);obtain⟨y,hy⟩:=B2 hlt1;refine R5 ?_;refine A1 rfl (C2 rfl N1 W7 zA zA hy qz1) ?_;refine R2 ?_;intro b12;refine zC ?_ ?_
  ·intro h40;have he:C9 buf got k=(y.Val,y.There,true):=(by unfold C9;rw[hnb,hinv.2,Aw9 hy,D9 h40]);rw[he];refine R11 ?_;exact zq190
  intro h40;refine R5 ?_;refine F1 j (j+1) ?_ ?_ (T4 1 A6)
  ·exact⟨by omega,by rw[hinv.2,Aw9 hy,D0 (by rw[h40];decide)]⟩
  omega
 intro h34 k34;have hge1:got.length≤j:=(by simpa using h34);have he:C9 buf got k=([],false,false):=(by unfold C9;rw[hnb,hinv.2,r9 hge1];rfl);rw[he];refine R3 ?_;refine zq13 ?_;refine R4 ?_;exact zq190
theorem DW1 (o:TOp)(val:Str)(there:Bool)(hv:val.length≤1048576)(hb: -10000≤o.By∧o.By≤10000):D6 212 [AV.wt Al6 (AV.agg o.cs),AV.str val,AV.bool there] (AV.bool (AS9 o val there)):=by
 have hr:=Cd7 val;refine B0 func212 rfl ntmps212 rfl ?_;refine zq195 ?_;refine R3 ?_;intro b3;refine R5 ?_;refine A1 rfl (Ad5 1 rfl rfl call213 rfl (Bc9 val hv) G6 BQ8) ?_;refine zC ?_ ?_
 ·intro h16;have k16:=J9 h16;(try simp only[A8]at k16);rw[holds4 k16];refine R11 ?_;refine AF2 rfl rfl (Y9 rfl rfl rfl) (fun hc=>zG rfl call29 (Z0 _ _ _) (A2 (A7 rfl hc) AT1)) ?_;exact zq40
 intro h16;have k16:=J4 h16;(try simp only[A8]at k16);refine zC ?_ ?_
 ·intro h30;have k30:=J9 h30;(try simp only[A8]at k30);rw[holds5 k30];refine R15 ?_;exact zq3
 intro h30;have k30:=J4 h30;(try simp only[A8]at k30);refine zC ?_ ?_
 ·intro h42;have k42:=J9 h42;(try simp only[A8]at k42);rw[holds6 k42];exact zq216
 intro h42;have k42:=J4 h42;(try simp only[A8]at k42);refine zC ?_ ?_
 ·intro h46;have k46:=J9 h46;(try simp only[A8]at k46);rw[holds7 k46];refine R12 ?_;exact zq3
 intro h46;have k46:=J4 h46;(try simp only[A8]at k46);rw[holds0 ⟨k16,k30,k42,k46⟩];exact zq105
theorem Cz1 (l:List TOp)(got:List H7)(hl:l.length≤900)(ho:∀o∈l,BE8 1000 o)(hgot:∀g∈got,g.size≤1000)(hcg:BI2 got):D6 148 [AV.wt Al6 (AV.list 4 (l.map TOp.cs)),AV.list 3 (got.map H7.cs)] (AV.tup [AV.int (P2 l got).1,AV.str (P2 l got).2.1,AV.list 3 ((P2 l got).2.2.map B1.cs)]):=by
 refine B0 func148 rfl ntmps148 rfl ?_;refine zq195 ?_;refine zq171 ?_;refine zq204 ?_;intro v15;refine R10 ?_;refine W1 [(1,_),(16,_),(17,_)] _ (fun (i:Nat) (buf:List B1) (v:Value)=>i≤l.length∧P2 l got=m2 got buf (l.drop i)∧adj X6 buf=true∧(∀w∈buf,w.size≤1000)∧buf.length≤i∧Bk1 buf) (fun i buf v=>[.arr v 248 3 (buf.map B1.cs)]) (fun i buf v=>[(7,AV.is v),(18,AV.int i)]) (fun i buf v=>l.length-i) (0) ([]) (v15) ?_ (I1 B7 A6) ?_
 ·exact⟨E4 _,rfl,rfl,fun w hw=>absurd hw List.not_mem_nil,K9 _,calm_nil⟩
 intro i buf v hinv;refine zK ?_ ?_
 ·intro h19 k19;have hlt:i<l.length:=Bd9;obtain⟨x,hx⟩:=B2 hlt;have hso:=ho x (C3 hx);have hsv:=BZ8 (k:=x.Key) hinv.2.2.2.1 hgot;refine zq168 ?_;intro b9;refine zC ?_ ?_
  ·intro h24;have k24:=J9 h24;(try simp only[A8]at k24);have hop:=opPut2 (v:=(C9 buf got x.Key).1) (t:=(C9 buf got x.Key).2.1) (buf:=buf) k24;have hgv:=Cb2 (v:=(C9 buf got x.Key).1) (t:=(C9 buf got x.Key).2.1) (.inl k24);have hnx:P2 l got=m2 got (V9 x (C9 buf got x.Key).1 (C9 buf got x.Key).2.1 buf) (l.drop (i+1)):=(by rw[hinv.2.1,J8 hx,Cb1 (.inl k24)]);refine R8 ?_;refine zI [1] rfl call210 (BS5 v buf ⟨x.Key,x.Val,false⟩ qz7) F3 rfl ?_;intro x32 ok32;refine R7 ?_;refine Q8 i buf v (i+1) (V9 x (C9 buf got x.Key).1 (C9 buf got x.Key).2.1 buf) (x32) ?_ ?_ (Le.trans (B4 [1,0] rfl) (D5 1 Cl3 A6))
   ·exact⟨by omega,hnx,AG6 hinv.2.2.1,AG8 hso.size E5 hso.by' (.inl hso.key) hgv hinv.2.2.2.1,by have h9:=AG7 (o:=x) (v:=(C9 buf got x.Key).1) (t:=(C9 buf got x.Key).2.1) (buf:=buf);omega,BN6 hinv.2.2.2.2.2⟩
   omega
  intro h24;have k24:=J4 h24;(try simp only[A8]at k24);refine zC ?_ ?_
  ·intro h33;have k33:=J9 h33;(try simp only[A8]at k33);have hop:=opPut3 (v:=(C9 buf got x.Key).1) (t:=(C9 buf got x.Key).2.1) (buf:=buf) k33;have hgv:=Cb2 (v:=(C9 buf got x.Key).1) (t:=(C9 buf got x.Key).2.1) (.inr k33);have hnx:P2 l got=m2 got (V9 x (C9 buf got x.Key).1 (C9 buf got x.Key).2.1 buf) (l.drop (i+1)):=(by rw[hinv.2.1,J8 hx,Cb1 (.inr k33)]);refine R6 ?_;refine zI [1] rfl call210 (BS5 v buf ⟨x.Key,[],true⟩ qz7) F3 rfl ?_;intro x39 ok39;refine R7 ?_;refine Q8 i buf v (i+1) (V9 x (C9 buf got x.Key).1 (C9 buf got x.Key).2.1 buf) (x39) ?_ ?_ (Le.trans (B4 [1,0] rfl) (D5 1 Cl3 A6))
   ·exact⟨by omega,hnx,AG6 hinv.2.2.1,AG8 hso.size E5 hso.by' (.inl hso.key) hgv hinv.2.2.2.1,by have h9:=AG7 (o:=x) (v:=(C9 buf got x.Key).1) (t:=(C9 buf got x.Key).2.1) (buf:=buf);omega,BN6 hinv.2.2.2.2.2⟩
   omega
  intro h33;have k33:=J4 h33;(try simp only[A8]at k33);refine R7 ?_;refine A1 rfl (n2 rfl call211 rfl (Cz0 x.Key buf got hinv.2.2.1 qz7) (Ab3 (I8 (AI7 _) (I8 (T9 _) (I8 (T9 _) W9)))) (N7 (evb zA) (N7 (BQ1 1 zA rfl) Ax6))) ?_;refine zC ?_ ?_
  ·intro h50;have he:P2 l got=(1,x.Key,[]):=(by rw[hinv.2.1,J8 hx,Da7 k24 k33 (by simpa using h50)]);rw[he];refine R6 ?_;refine B3 rfl rfl (G7 rfl (j0 (sz:=3))) ?_;refine R2 ?_;exact zq190
  intro h50;have hkn:(C9 buf got x.Key).2.2=true:=(by simpa using h50);refine R7 ?_;refine A1 rfl (Ad5 2 rfl rfl call212 rfl (DW1 x (C9 buf got x.Key).1 (C9 buf got x.Key).2.1 qz7 hso.by') AD5 BQ8) ?_;refine zC ?_ ?_
  ·intro h57;have he:P2 l got=(2,[],[]):=(by rw[hinv.2.1,J8 hx,DQ8 hkn (by simpa using h57)]);rw[he];refine zq171 ?_;refine R2 ?_;exact zq190
  intro h57;obtain⟨hnx0,hgv⟩:=stepI_on (l:=l.drop (i+1)) hkn (show AS9 x (C9 buf got x.Key).1 (C9 buf got x.Key).2.1=true by simpa using h57);have hnx:P2 l got=m2 got (V9 x (C9 buf got x.Key).1 (C9 buf got x.Key).2.1 buf) (l.drop (i+1)):=(by rw[hinv.2.1,J8 hx];exact hnx0);refine zC ?_ ?_
  ·intro h60;have hop:=opPut4 (k:=x.Key) hinv.2.2.2.2.2 hcg (by simpa using h60);have har:=Ay8 (by simpa using h60) hso.by' hgv;rw[CI9 hinv.2.2.2.2.2 hcg]at har;refine R3 ?_;refine A1 rfl (Ad5 2 rfl rfl call213 rfl (Bc9 (C9 buf got x.Key).1 qz7) G6 BQ8) ?_;refine R6 ?_;refine J3 9 E3 E3 rfl ?_;refine R7 ?_;refine B3 rfl rfl (Ad5 2 rfl rfl call214 rfl (Cc6 ((l5N (C9 buf got x.Key).1).1+x.By) qz7) G6 BQ8) ?_;refine R2 ?_;refine zI [1] rfl call210 (BS5 v buf ⟨x.Key,AA9 ((l5N (C9 buf got x.Key).1).1+x.By),false⟩ qz7) F3 rfl ?_;intro x75 ok75;refine R6 ?_;refine Q8 i buf v (i+1) (V9 x (C9 buf got x.Key).1 (C9 buf got x.Key).2.1 buf) (x75) ?_ ?_ (Le.trans (B4 [1,0] rfl) (D5 1 Cl3 A6))
   ·exact⟨by omega,hnx,AG6 hinv.2.2.1,AG8 hso.size E5 hso.by' (.inl hso.key) hgv hinv.2.2.2.1,by have h9:=AG7 (o:=x) (v:=(C9 buf got x.Key).1) (t:=(C9 buf got x.Key).2.1) (buf:=buf);omega,BN6 hinv.2.2.2.2.2⟩
   omega
  intro h60;have hop:=opPut0 (v:=(C9 buf got x.Key).1) (t:=(C9 buf got x.Key).2.1) (buf:=buf) k24 k33 (by simpa using h60);refine R5 ?_;refine Q8 i buf v (i+1) (V9 x (C9 buf got x.Key).1 (C9 buf got x.Key).2.1 buf) (v) ?_ ?_ (Le.trans (B4 [0,0] rfl) (D5 1 Cl3 A6))
  ·exact⟨by omega,hnx,AG6 hinv.2.2.1,AG8 hso.size E5 hso.by' (.inl hso.key) hgv hinv.2.2.2.1,by have h9:=AG7 (o:=x) (v:=(C9 buf got x.Key).1) (t:=(C9 buf got x.Key).2.1) (buf:=buf);omega,BN6 hinv.2.2.2.2.2⟩
  omega
 intro h19 k19;have hge:l.length≤i:=Bd9;have he:P2 l got=(3,[],buf):=(by rw[hinv.2.1,r9 hge];rfl);rw[he];refine R5 ?_;refine zq13 ?_;refine R3 ?_;refine Au6 0 6 rfl rfl ?_;exact zq190
theorem DW2 (cuts:List Str)(t:B5)(hb:CF9 t):D6 92 [strs cuts,AV.agg t.cs] (AV.tup [strs (i9 t.Got),AV.list 3 ((P2 t.Ops t.Got).2.2.map B1.cs),ints (U7 cuts t),AV.bool (AK5 t)]):=by
 have hgl:=hb.got.1;have hrl:=Az9 t.Got;have hst:=ran (got:=t.Got) (n:=1000) E5 hb.ops;have hwl:(P2 t.Ops t.Got).2.2.length≤1000:=L7 hst.len (by have:=hb.len;omega);obtain⟨S,hS⟩:∃S,P2 t.Ops t.Got=S:=⟨_,rfl⟩;have hstep:=DG7 t.Ops t.Got hb.len hb.ops hb.got.2;have hbq:AK5 t=((P2 t.Ops t.Got).1==3&&decide (0<((((i9 t.Got).map fun t=>[AV.str t]).length:Nat):Int)+((((P2 t.Ops t.Got).2.2.map B1.cs).length:Nat):Int))):=by unfold AK5;simp only[A8]
 rw[hbq];unfold U7;rw[hS]at hstep hwl⊢;have hkl:=Af9 (i9 t.Got++O8 S.2.2);rw[I2,show (O8 S.2.2).length=S.2.2.length from A8 ..]at hkl;refine B0 func92 rfl ntmps92 rfl ?_;refine R3 ?_;intro b3;refine zq70 ?_;refine zq55 ?_;refine zq70 ?_;refine R8 ?_;refine zF rfl call161 (hstep) F3 ?_;refine R10 ?_;refine n1 9 1 rfl rfl rfl rfl L2 ?_;intro v11;refine R10 ?_;refine zL [0] ?_;refine K5 [(0,_),(4,_),(5,_),(6,_),(7,_),(8,_),(10,_),(24,_),(25,_)] _ (fun (i:Nat) (v:Value)=>i≤t.Got.length) (fun i v=>[.arr v 9 1 ((i9 (t.Got.take i)).map fun t=>[AV.str t])]) (fun i v=>[(11,AV.is v),(26,AV.int i)]) (fun i v=>t.Got.length-i) (0) (v11) ?_ (I1 B7 A6) ?_
 ·exact E4 _
 intro i v hinv;refine zK ?_ ?_
 ·intro h27 k27;have hlt:i<t.Got.length:=(by simpa using h27);obtain⟨g,hg⟩:=B2 hlt;have hrs:=CL7 (t.Got.take i);have hrn:=Az9 (t.Got.take i);rw[H0]at hrn;refine R5 ?_;refine A1 rfl (C2 rfl N1 W7 zA zA hg qz1) ?_;refine R2 ?_;intro b13;refine R6 ?_;refine zI [1] rfl call105 (Ah5 v (i9 (t.Got.take i)) g.Key hrs qz7) F3 rfl ?_;intro x33 ok33;refine R6 ?_;refine H5 i v (i+1) (x33) ?_ ?_ (Le.trans (B4 [1,0] rfl) (D5 1 (by (rw[CL8 hg];rfl)) A6))
  ·exact qz7
  omega
 intro h27 k27;have hge:t.Got.length≤i:=(by simpa using h27);rw[S7 hge];refine R2 ?_;refine AWP.le (AI8 [0] 11 rfl rfl (K2 (C3 (i:=0) rfl) G3) Af6) ?_;refine zq159 ?_;exact Y1 rfl E5 (G0 (A5 rfl B7) AT2)
theorem Bm1 (s:E1)(n:Int)(hs:s.Told.length≤1048576)(hp:s.Told.Pairwise fun a b=>a.Txn<b.Txn):D6 72 [AV.agg s.cs,AV.int n] (AV.tup [AV.agg (y5 s.Told n).1.cs,AV.bool (y5 s.Told n).2]):=by
 refine B0 func72 rfl ntmps72 rfl ?_;refine R3 ?_;intro b2;refine R1 ?_;intro b4;refine R6 ?_;refine zF rfl call146 (Bl1 s n hs) F3 ?_;refine zC ?_ ?_
 ·intro h15;have he:y5 s.Told n=(zTold,false):=by (unfold y5;rw[CJ9.2 (by rw[←Bc3 hp];simpa using h15)])
  rw[he];refine R7 ?_;exact zq191
 intro h15;obtain⟨t,ht,htn⟩:=Db9 Ax2;have he:y5 s.Told n=(t,true):=by (have h9:=DZ1 hp (C3 ht);rw[htn]at h9;unfold y5;rw[h9])
 rw[he];refine R6 ?_;refine A1 rfl (C2 rfl K7 Q2 zA zA ht qz1) ?_;refine R5 ?_;exact zq191
theorem CV8 (ss:List E1)(n:Int)(hl:ss.length≤10)(hs:∀s∈ss,s.Told.length≤100):D6 91 [AV.list 4 (ss.map E1.cs),AV.int n] (AV.tup [AV.list 3 ((AG4 (P8 ss n)).1.map H2.cs),AV.bool (AG4 (P8 ss n)).2]):=by
 refine B0 func91 rfl ntmps91 rfl ?_;refine R2 ?_;refine zq55 ?_;refine R4 ?_;refine n1 118 3 rfl rfl rfl rfl L2 ?_;intro v6;refine R9 ?_;refine zL [0] ?_;refine K5 [(1,_),(4,_),(5,_),(13,_),(14,_)] _ (fun (i:Nat) (v:Value)=>i≤ss.length) (fun i v=>[.arr v 118 3 ((P8 (ss.take i) n).map H2.cs)]) (fun i v=>[(6,AV.is v),(15,AV.int i)]) (fun i v=>ss.length-i) (0) (v6) ?_ (I1 B7 A6) ?_
 ·exact E4 _
 intro i v hinv;refine zK ?_ ?_
 ·intro h16 k16;have hlt:i<ss.length:=BM3;obtain⟨s,hsx⟩:=B2 hlt;have hst:=hs s (C3 hsx);have htl:=BY9 (ss:=ss.take i) (n:=n);rw[H0]at htl;refine R5 ?_;refine A1 rfl (C2 rfl j9 K8 zA zA hsx qz1) ?_;refine R2 ?_;intro b8;refine R6 ?_;refine zF rfl call93 (AJ7 s n qz7) F3 ?_;refine R4 ?_;intro b9;refine zC ?_ ?_
  ·intro h25;refine R4 ?_;refine I0 (by':=24) 2 rfl rfl rfl rfl K7 type118 rfl rfl rfl rfl rfl rfl zA zA rfl BX7 ?_;intro v29_1;refine R6 ?_;refine H5 i v (i+1) (v29_1) ?_ ?_ (Le.trans (B4 [0,0,0] rfl) (D5 2 qz193 A6))
   ·exact qz7
   omega
  intro h25;refine R5 ?_;refine H5 i v (i+1) (v) ?_ ?_ (Le.trans (B4 [0,0,0] rfl) (D5 2 qz193 A6))
  ·exact qz7
  omega
 intro h16 k16;have hge:ss.length≤i:=BM3;rw[S7 hge];have htl:=BY9 (ss:=ss) (n:=n);refine R9 ?_;refine zL [0] ?_;refine E8 [(6,_),(31,_),(32,_)] _ (fun (j:Nat)=>j≤(P8 ss n).length∧(∀(k:Nat) (y:H2),k<j→(P8 ss n)[k]? =some y→(P8 ss n)[0]? =some y)) (fun j=>[.arr v 118 3 ((P8 ss n).map H2.cs)]) (fun j=>[(33,AV.int j)]) (fun j=>(P8 ss n).length-j) (0) ?_ (I1 B7 A6) ?_
 ·exact⟨E4 _,fun k y hk=>absurd hk (Nat.not_lt_zero _)⟩
 intro j hinv;refine zK ?_ ?_
 ·intro h34 k34;have hlt1:j<(P8 ss n).length:=(by simpa using h34);obtain⟨x,hx⟩:=B2 hlt1;obtain⟨x0,hx0⟩:=B2 (show 0<(P8 ss n).length by omega);refine R5 ?_;refine A1 rfl (I4 0 rfl K7 Q2 zA rfl zA qz7 AE8) ?_;refine A1 rfl (r5 0 rfl zA rfl AW3 Q2 qz56 E5) ?_;refine R1 ?_;intro b12;refine R6 ?_;refine B3 rfl rfl (I4 1 rfl K7 Q2 zA rfl L1 qz7 AE8) ?_;refine B3 rfl rfl (r5 1 rfl zA rfl AW3 Q2 qz56 E5) ?_;refine zq201 ?_;refine zC ?_ ?_
  ·intro h41;rw[CT0]at h41;rw[Da8 hx0 hx (by simpa using h41)];refine R2 ?_;refine zq55 ?_;refine R3 ?_;exact zq111
  intro h41;rw[CT0]at h41;have hxe:x=x0:=(by simpa using h41);refine R5 ?_;refine F1 j (j+1) ?_ ?_ (Le.trans (B4 [0,0] rfl) (D5 1 B7 A6))
  ·exact⟨by omega,fun k y hk hy=>by by_cases hkj:k<j;exact hinv.2 k y hkj hy;have hke:k=j:=qz7;subst hke;rw[hx]at hy;injection hy with hy;rw[←hy,hxe];exact hx0⟩
  omega
 intro h34 k34;rw[sameL_ok (fun k y hy=>hinv.2 k y (by have h9:=(G1.1 hy).1;omega) hy)];refine R8 ?_;refine Au6 0 4 rfl rfl ?_;exact zq111
theorem DW3 (s:E1)(k:Str)(t:Int)(hc:o1 s.Cells=true):D6 78 [AV.agg s.cs,AV.str k,AV.int t] (AV.agg (CP0 s k t).cs):=by
  have hs:=BJ0 hc;refine B0 func78 rfl ntmps78 rfl ?_;refine R3 ?_;intro b3;refine R1 ?_;intro b6;refine R7 ?_;refine zF rfl call154 (DG5 s.Cells k t (AF3 hc).2.1 qz7) AD5 ?_;refine R15 ?_;exact D1 rfl (F5 (ys:=_) 0 rfl rfl isAgg58 W7 rfl)
theorem DW4 (w:C7)(ss:List E1)(got:List H7)(t:Int)(hs:As4 ss)(hl:w.Cuts.length<ss.length)(hg:got.length≤1000):M0 20 [AV.agg w.cs,AV.list 4 (ss.map E1.cs),AV.list 3 (got.map H7.cs),AV.int t] [] (fun _:Value=>True) (fun v=>[.arr v 58 3 ((r6 w.Cuts ss got t).map H7.cs)]) (fun v=>AV.is v):=by
 refine C8 func20 rfl ntmps20 rfl ?_;refine R3 ?_;intro b4;refine zq88 ?_;refine R3 ?_;refine S3 rfl rfl rfl rfl N1 W7 ?_;intro v12;refine R10 ?_;refine zL [0] ?_;refine K5 [(1,_),(3,_),(4,_),(8,_),(13,_),(14,_)] _ (fun (i:Nat) (v:Value)=>i≤got.length) (fun i v=>[.arr v 58 3 ((r6 w.Cuts ss (got.take i) t).map H7.cs)]) (fun i v=>[(9,AV.is v),(15,AV.int i)]) (fun i v=>got.length-i) (0) (v12) ?_ (I1 B7 A6) ?_
 ·exact E4 _
 intro i v hinv;refine zK ?_ ?_
 ·intro h16 k16;have hlt:i<got.length:=BM3;obtain⟨x,hx⟩:=B2 hlt;have hpl:=CE3 w.Cuts x.Key;have hpx:ss[w4 w.Cuts x.Key]? =some (Z5 ss (w4 w.Cuts x.Key)):=BE3 qz7;have hrl:(r6 w.Cuts ss (got.take i) t).length=i:=(by unfold r6;rw[A8,H0];omega);refine R5 ?_;refine zq91 ?_;intro b11;refine R2 ?_;refine J3 14 E3 E3 rfl ?_;refine R6 ?_;refine B3 rfl rfl (zG rfl call79 (Br9 _ _) F3) ?_;refine B3 rfl rfl (C2 rfl j9 K8 zA zA hpx qz1) ?_;refine R4 ?_;refine B3 rfl rfl (zG rfl call78 (DW3 (Z5 ss (w4 w.Cuts x.Key)) x.Key t (hs _ (Cy2 qz7))) (A2 (A0 rfl) (A2 (A0 rfl) (A2 (A0 rfl) A9)))) ?_;refine R2 ?_;refine I0 (by':=40) 1 rfl rfl rfl rfl N1 type58 rfl rfl rfl rfl rfl rfl zA zA rfl (by rw[A8,hrl];simp only[X4];omega) ?_;intro v33_1;refine R6 ?_;refine H5 i v (i+1) (v33_1) ?_ ?_ (Le.trans (B4 [0,0] rfl) (D5 1 (by (rw[Cy3 hx,Y3];rfl)) A6))
  ·exact qz7
  omega
 intro h16 k16;have hge:got.length≤i:=BM3;rw[S7 hge];exact zq118
theorem BH8 (w:C7)(ss:List E1)(got:List H7)(t:Int)(hs:As4 ss)(hl:w.Cuts.length<ss.length)(hg:got.length≤1000):D6 20 [AV.agg w.cs,AV.list 4 (ss.map E1.cs),AV.list 3 (got.map H7.cs),AV.int t] (AV.list 3 ((r6 w.Cuts ss got t).map H7.cs)):=
  J5 (DW4 w ss got t hs hl hg) fun v _=>K2 (i6.2 rfl) G3
theorem BT1 (cuts:List Str)(ss:List E1)(got:List H7)(t:Int)(hs:As4 ss)(hl:cuts.length<ss.length)(hcut:AB2 cuts=true):D6 25 [strs cuts,AV.list 4 (ss.map E1.cs),AV.list 3 (got.map H7.cs),AV.int t] (AV.bool (Ac6 cuts ss got t)):=by
 refine B0 func25 rfl ntmps25 rfl ?_;refine Y0 (t:=2) rfl fun hgl=> ?_;try simp only[A8]at hgl
 refine R12 ?_;refine E8 [(0,_),(1,_),(3,_),(13,_),(14,_)] _ (fun (i:Nat)=>i≤got.length∧(got.take i).all (BU0 cuts ss t)=true) (fun i=>[]) (fun i=>[(15,AV.int i)]) (fun i=>got.length-i) (0) ?_ (I1 B7 A6) ?_
 ·exact zq4
 intro i hinv;refine zK ?_ ?_
 ·intro h16 k16;have hlt:i<got.length:=BM3;obtain⟨x,hx⟩:=B2 hlt;have hpl:=CE3 cuts x.Key;have hpx:ss[w4 cuts x.Key]? =some (Z5 ss (w4 cuts x.Key)):=BE3 qz7;have hcx:=hs _ (Cy2 (ss:=ss) (p:=w4 cuts x.Key) qz7);have hcs:=BJ0 hcx;refine R5 ?_;refine zq91 ?_;intro b10;refine R8 ?_;refine B3 rfl rfl (zG rfl call96 (Ae1 _ _) F3) ?_;refine B3 rfl rfl (C2 rfl j9 K8 zA zA hpx (by rw[←CS9 (Cc8 hcut)])) ?_;refine R5 ?_;refine B3 rfl rfl (zG rfl call95 (BZ7 (Z5 ss (w4 cuts x.Key)).Cells x.Key t qz7) AD5) ?_;refine R11 ?_;refine A1 rfl (Ba3 rfl U4 zA zA) ?_;refine zC ?_ ?_
  ·intro h46;have hq:BU0 cuts ss t x=false:=(by unfold BU0;rw[show (((cellAt (Z5 ss (w4 cuts x.Key)).Cells x.Key t).2 !=x.There)||((cellAt (Z5 ss (w4 cuts x.Key)).Cells x.Key t).2&&((cellAt (Z5 ss (w4 cuts x.Key)).Cells x.Key t).1 !=x.Val)))=true by first|exact h46|simpa using h46];rfl);rw[show Ac6 cuts ss got t=false from Ap8 hx hq];exact zq40
  intro h46;have hq:BU0 cuts ss t x=true:=(by unfold BU0;rw[show (((cellAt (Z5 ss (w4 cuts x.Key)).Cells x.Key t).2 !=x.There)||((cellAt (Z5 ss (w4 cuts x.Key)).Cells x.Key t).2&&((cellAt (Z5 ss (w4 cuts x.Key)).Cells x.Key t).1 !=x.Val)))=false by first|exact h46|simpa using h46];rfl);refine R5 ?_;refine F1 i (i+1) ?_ ?_ (Le.trans (B4 [0] rfl) (D5 1 B7 A6))
  ·exact⟨by omega,AU8 hx hinv.2 hq⟩
  omega
 intro h16 k16;have hge:got.length≤i:=BM3;have hall:=hinv.2;rw[S7 hge]at hall;rw[show Ac6 cuts ss got t=true from hall];exact zq105
theorem CV9 (w:C7)(n:Nat)(l:C5)(z:WZ w)(hg:Z4 w=true)(hn:w.Looks[n]? =some l):D6 9 [AV.agg w.cs,AV.int n] (AV.tup [AV.bool (decide (r6 w.Cuts (O6 w) l.Got l.Time=l.Got)),AV.bool true]):=by
 have hgl:=z.groups.1;have hlk:=z.looks.1;have hnl:=(G1.1 hn).1;obtain⟨ws1,ws2,ws3,ws4⟩:=world_states z hg;have gw:=Az0 hg;have hlg:=Ce3 (gw.looks.2 l (C3 hn));have hcl:w.Cuts.length<(O6 w).length:=by unfold O6;rw[A8,gw.groups.1];omega
 have hwn:within (n:Int) 0 ((w.Looks.length:Int)-1)=true:=by unfold within;rw[W6 qz7,W6 qz7];rfl
 refine B0 func9 rfl ntmps9 rfl ?_;refine R3 ?_;intro b2;refine R7 ?_;refine zF rfl call15 (BA2 w z) G6 ?_;refine R7 ?_;refine S0 rfl (fun hc=>zG rfl call29 (Z0 _ _ _) zS) ?_;refine zC ?_ ?_
 ·intro h18
  (exfalso;rw[hg,A8,hwn]at h18;cases h18)
 intro h18;refine R6 ?_;refine A1 rfl (C2 rfl j8 AJ8 zA zA hn qz1) ?_;refine R2 ?_;intro b6;refine R6 ?_;refine B3 rfl rfl (zG rfl call17 (BW9 w hgl ws1) G6) ?_;refine R4 ?_;refine B3 rfl rfl (zG rfl call20 (BH8 w (O6 w) l.Got l.Time ws2 hcl qz7) BR0) ?_;refine R2 ?_;refine B3 rfl rfl (zG rfl call19 (At5 (r6 w.Cuts (O6 w) l.Got l.Time) l.Got) F3) ?_;refine R4 ?_;exact zq111
theorem CW0 (w:C7)(ss:List E1)(k:Nat)(t:B5)(ht:w.Txns[k]? =some t)(hss:As4 ss)(hgs:∀s∈ss,s.Told.length≤100∧s.Held.length≤1000)(hl:w.Cuts.length<ss.length)(hcut:AB2 w.Cuts=true)(hl3:ss.length≤10)(hb:CF9 t)(hk:k≤1000)(hwl:(P2 t.Ops t.Got).2.2.length≤1000)(htm:0≤t.Time∧t.Time≤100000):D6 24 [AV.agg w.cs,AV.list 4 (ss.map E1.cs),AV.int k] (AV.bool (BB6 w ss k t (U7 w.Cuts t) (AK5 t))):=by
 obtain⟨n,hn⟩:∃n:Int,(k:Int)+1=n:=⟨_,rfl⟩;obtain⟨td,htd⟩:=Aw1 (P8 ss ((k:Int)+1)) 0;have hpl:(U7 w.Cuts t).length≤1000000:=by
  have h1:=Az7 w.Cuts (AI4 (i9 t.Got++O8 (P2 t.Ops t.Got).2.2));have h2:=Af9 (i9 t.Got++O8 (P2 t.Ops t.Got).2.2);have h3:=Bs3 (got:=t.Got) (a:=[]);have h5:=hb.got.1;rw[I2,show (O8 (P2 t.Ops t.Got).2.2).length=(P2 t.Ops t.Got).2.2.length from A8 ..]at h2;rw[T5]at h3;unfold U7;unfold i9 at h1 h2⊢;omega
 refine B0 func24 rfl ntmps24 rfl ?_;refine R3 ?_;intro b3;refine R7 ?_;refine zq156 ?_;intro b7;refine R7 ?_;refine zF rfl call91 (CV8 ss ((k:Int)+1) hl3 (fun s hs=>(hgs s hs).1)) F3 ?_;refine R11 ?_;refine zF rfl call92 (DW2 w.Cuts t hb) F3 ?_;refine zC ?_ ?_
 ·intro h44;rw[DH1 (show (AG4 (P8 ss ((k:Int)+1))).2=false by simpa using h44)];exact zq180
 intro h44;have hsm:(AG4 (P8 ss ((k:Int)+1))).2=true:=Bu3;rw[Df5 hsm];refine R16 ?_;refine L5 rfl (fun hc=>C2 rfl K7 Q2 (A7 rfl hc) L1 (htd BF7) qz6) ?_;refine zC ?_ ?_
 ·intro h60;have hcond:((t.Put&&AK5 t)&&Aj8 (P8 ss ((k:Int)+1)))=true:=(by rw[CM6 htd];rw[A8]at h60;rw[←Bool.and_assoc];exact h60);have hok:AK5 t=true:=(by rw[F0,F0]at hcond;exact hcond.1.2);obtain⟨p0,hp0⟩:=BW8 (cuts:=w.Cuts) hok;have hp0i:=BQ6 (C3 hp0);have hst0:ss[p0.toNat]? =some (Z5 ss p0.toNat):=BE3 qz7;have hgs0:=hgs _ (C3 hst0);refine R5 ?_;refine A1 rfl (C2 rfl D3 E9 zA L1 hp0 qz1) ?_;refine R1 ?_;refine A1 rfl (C2 rfl j9 K8 zA zA hst0 qz7) ?_;refine R3 ?_;refine zF rfl call93 (AJ7 (Z5 ss p0.toNat) ((k:Int)+1) qz7) F3 ?_;refine R4 ?_;intro b14;refine zC ?_ ?_
  ·intro h74;rw[CM5 hsm hcond (CV4 hp0 (by rw[←BZ9];simpa using h74))];exact zq180
  intro h74;have hf0:(AD3 (Z5 ss p0.toNat).Told ((k:Int)+1)).isSome=true:=(by rw[←BZ9];simpa using h74);refine R8 ?_;refine E8 [(1,_),(2,_),(3,_),(7,_),(8,_),(75,_),(76,_)] _ (fun (i:Nat)=>i≤(U7 w.Cuts t).length∧((U7 w.Cuts t).take i).all (fun p=>okS ((k:Int)+1) (Z5 ss p.toNat))=true) (fun i=>[]) (fun i=>[(77,AV.int i)]) (fun i=>(U7 w.Cuts t).length-i) (0) ?_ (I1 B7 A6) ?_
  ·exact zq4
  intro i hinv;refine zK ?_ ?_
  ·intro h78 k78;have hlt:i<(U7 w.Cuts t).length:=(by simpa using h78);obtain⟨p,hp⟩:=B2 hlt;have hpi:=BQ6 (C3 hp);have hst:ss[p.toNat]? =some (Z5 ss p.toNat):=BE3 qz7;have hgp:=hgs _ (C3 hst);refine R5 ?_;refine A1 rfl (C2 rfl D3 E9 zA zA hp qz1) ?_;refine R7 ?_;refine zq215 ?_;refine zF rfl call93 (AJ7 (Z5 ss p.toNat) ((k:Int)+1) qz7) F3 ?_;refine R4 ?_;intro b18;refine R7 ?_;refine zq215 ?_;refine zF rfl call94 (Ae0 (Z5 ss p.toNat) ((k:Int)+1) qz7) F3 ?_;refine R4 ?_;intro b20;refine zC ?_ ?_
   ·intro h106;have hq:okS ((k:Int)+1) (Z5 ss p.toNat)=false:=qz128;rw[CM5 hsm hcond (DH2 hp hq)];exact zq180
   intro h106;have hq:okS ((k:Int)+1) (Z5 ss p.toNat)=true:=qz128;refine R5 ?_;refine F1 i (i+1) ?_ ?_ (Le.trans (B4 [0,0] rfl) (D5 2 B7 A6))
   ·exact⟨by omega,AU8 (p:=fun p=>okS ((k:Int)+1) (Z5 ss p.toNat)) hp hinv.2 hq⟩
   omega
  intro h78 k78;have hge:(U7 w.Cuts t).length≤i:=(by simpa using h78);have hall:=hinv.2;rw[S7 hge]at hall;rw[Ce4 hsm (.inr (Cy4 hp0 hf0 hall))];refine zC ?_ ?_
  ·intro h115;rw[show BX3 w ss k t=true from D9 h115];exact zq180
  intro h115;rw[show BX3 w ss k t=((Bd7 (P8 ss ((k:Int)+1)) ⟨(k:Int)+1,true,t.Time⟩&&decide (w.Now>t.Time))&&Ac6 w.Cuts ss t.Got (t.Time-1))from D0 (by rw[h115];decide),Ce5 _ htd];refine R8 ?_;refine zq48 ?_;refine R4 ?_;exact D1 rfl (A5 rfl Be5)
 intro h60;have hcond:((t.Put&&AK5 t)&&Aj8 (P8 ss ((k:Int)+1)))=false:=(by rw[CM6 htd];rw[A8]at h60;rw[←Bool.and_assoc];exact h60);rw[Ce4 hsm (.inl hcond)];refine zC ?_ ?_
 ·intro h115;rw[show BX3 w ss k t=true from D9 h115];exact zq180
 intro h115;rw[show BX3 w ss k t=((Bd7 (P8 ss ((k:Int)+1)) ⟨(k:Int)+1,true,t.Time⟩&&decide (w.Now>t.Time))&&Ac6 w.Cuts ss t.Got (t.Time-1))from D0 (by rw[h115];decide),Ce5 _ htd];refine R8 ?_;refine zq48 ?_;refine R4 ?_;exact D1 rfl (A5 rfl Be5)
theorem CF1 (w:C7)(z:WZ w):D6 7 [AV.agg w.cs] (AV.tup [AV.bool (BF4 w).1,AV.bool (BF4 w).2]):=by
 have hgl:=z.groups.1;refine B0 func7 rfl ntmps7 rfl ?_;refine R3 ?_;intro b1;refine R7 ?_;refine zF rfl call21 (Cy8 w z) G6 ?_;refine zC ?_ ?_
 ·intro h12;have he:BF4 w=(false,false):=(by unfold BF4;exact D0 Ax3);rw[he];exact zq207
 intro h12;have hgw:Z4 w=true:=Ax3;obtain⟨ws1,ws2,ws3,ws4⟩:=world_states z hgw;have gw:=Az0 hgw;have htl:=gw.txns.1;have hll:=gw.looks.1;have hcut:=gw.cuts.2;have hsl:w.Cuts.length<(O6 w).length:=(by unfold O6;rw[A8,gw.groups.1];omega);have hgs:∀s∈O6 w,s.Told.length≤100∧s.Held.length≤1000:=(fun s hs=>by obtain⟨g,hg,rfl⟩:=n6.1 hs;have h9:=BV9 (ws1 g hg);exact⟨L7 h9.tlen E5,L7 h9.hlen E5⟩);have he:BF4 w=(((w.Groups.all Aq5&&(List.range w.Txns.length).all (BP9 w))&&w.Looks.all fun l=>Ac6 w.Cuts (O6 w) l.Got l.Time),true):=D9 hgw;rw[he];refine R3 ?_;refine n1 64 4 rfl rfl rfl rfl L2 ?_;intro v4;refine R10 ?_;refine zL [0] ?_;refine K5 [(1,_),(14,_),(15,_)] _ (fun (i:Nat) (v:Value)=>i≤w.Groups.length∧(w.Groups.take i).all Aq5=true) (fun i v=>[.arr v 64 4 (((w.Groups.take i).map Ai8).map E1.cs)]) (fun i v=>[(4,AV.is v),(16,AV.int i)]) (fun i v=>w.Groups.length-i) (0) (v4) ?_ (I1 B7 A6) ?_
 ·exact zq4
 intro i v hinv;refine zK ?_ ?_
 ·intro h17 k17;have hlt:i<w.Groups.length:=(by simpa using h17);obtain⟨g,hg⟩:=B2 hlt;have hgx:=ws1 g (C3 hg);have hgz:=z.groups.2 g (C3 hg);refine R5 ?_;refine zq101 ?_;intro b6;refine R6 ?_;refine zF rfl call22 (Cy9 g hgz.1) G6 ?_;refine zC ?_ ?_
  ·intro h22;have hq:Aq5 g=false:=BU5;rw[Ap8 hg hq];exact zq207
  intro h22;have hq:Aq5 g=true:=BU5;refine R4 ?_;refine zF rfl call23 (Bs1 g hgx) G6 ?_;refine R1 ?_;refine I0 (by':=80) 1 rfl rfl rfl rfl j9 type64 rfl rfl rfl rfl rfl rfl zA zA rfl qz178 ?_;intro v27_1;refine R6 ?_;refine H5 i v (i+1) (v27_1) ?_ ?_ (Le.trans (B4 [0,0] rfl) (D5 1 (by (rw[X3,hg,Y3,Y3];rfl)) A6))
  ·exact⟨by omega,AU8 hg hinv.2 hq⟩
  omega
 intro h17 k17;have hge:w.Groups.length≤i:=(by simpa using h17);have hsafe:=hinv.2;rw[S7 hge]at hsafe;rw[show (w.Groups.take i).map Ai8=O6 w from by rw[S7 hge];rfl];refine R3 ?_;refine AWP.le (AI8 [0] 4 rfl rfl (K2 (C3 (i:=0) rfl) G3) Af6) ?_;refine R7 ?_;refine E8 [(1,_),(4,_),(31,_)] _ (fun (j:Nat)=>j≤w.Txns.length∧(List.range j).all (BP9 w)=true) (fun j=>[]) (fun j=>[(32,AV.int j)]) (fun j=>w.Txns.length-j) (0) ?_ (I1 B7 A6) ?_
 ·exact zq4
 intro j hinv;refine zK ?_ ?_
 ·intro h33 k33;have hlt1:j<w.Txns.length:=(by simpa using h33);obtain⟨t,ht⟩:=B2 hlt1;have hgt:=gw.txns.2 t (C3 ht);obtain⟨hsb,hop8,hgk⟩:=Bw7 hgt;have htx:=txn_sb hgt;refine R13 ?_;refine zF rfl call24 (CW0 w (O6 w) j t ht ws2 hgs hsl hcut ws3 hsb qz7 htx.1 htx.2) AD5 ?_;refine zC ?_ ?_
  ·intro h39;have hqt:BP9 w j=false:=(by unfold BP9;rw[ht];simpa using h39);rw[CE7 hlt1 hqt,Bool.and_false];exact zq207
  intro h39;have hqt:BP9 w j=true:=(by unfold BP9;rw[ht];simpa using h39);refine R5 ?_;refine F1 j (j+1) ?_ ?_ (I1 B7 A6)
  ·exact⟨by omega,Bj5 hinv.2 hqt⟩
  omega
 intro h33 k33;have hjl:j=w.Txns.length:=(by have h9:w.Txns.length≤j:=(by simpa using h33);omega);subst hjl;have htall:=hinv.2;refine R10 ?_;refine E8 [(1,_),(4,_),(42,_),(43,_)] _ (fun (m:Nat)=>m≤w.Looks.length∧(w.Looks.take m).all (fun l=>Ac6 w.Cuts (O6 w) l.Got l.Time)=true) (fun m=>[]) (fun m=>[(44,AV.int m)]) (fun m=>w.Looks.length-m) (0) ?_ (I1 B7 A6) ?_
 ·exact zq4
 intro m hinv;refine zK ?_ ?_
 ·intro h45 k45;have hlt2:m<w.Looks.length:=(by simpa using h45);obtain⟨l,hl⟩:=B2 hlt2;refine R5 ?_;refine A1 rfl (C2 rfl j8 AJ8 zA zA hl qz1) ?_;refine R2 ?_;intro b9;refine R11 ?_;refine zF rfl call25 (BT1 w.Cuts (O6 w) l.Got l.Time ws2 hsl hcut) BR0 ?_;refine zC ?_ ?_
  ·intro h56;have hql:Ac6 w.Cuts (O6 w) l.Got l.Time=false:=(by simpa using h56);rw[Ap8 (p:=fun l=>Ac6 w.Cuts (O6 w) l.Got l.Time) hl hql,Bool.and_false];exact zq207
  intro h56;have hql:Ac6 w.Cuts (O6 w) l.Got l.Time=true:=(by simpa using h56);refine R5 ?_;refine F1 m (m+1) ?_ ?_ (Le.trans (B4 [0] rfl) (D5 1 B7 A6))
  ·exact⟨by omega,AU8 (p:=fun l=>Ac6 w.Cuts (O6 w) l.Got l.Time) hl hinv.2 hql⟩
  omega
 intro h45 k45;have hgem:w.Looks.length≤m:=(by simpa using h45);have hlall:=hinv.2;rw[S7 hgem]at hlall;rw[hsafe,htall,hlall];refine R7 ?_;exact zq32
theorem DW5 {cuts:List Str}{t:B5}(hc:AB2 cuts=true):cmpL ((AI4 (AX7 (t.Got.map H7.Key)++O8 (P2 t.Ops t.Got).2.2)).map fun k=>(w4 cuts k:Int))=U7 cuts t:=by
  rw[Df6,DT5 (Cc8 hc) (BI9 _)];rfl
theorem CW1 (cuts:List Str)(t:B5)(hc:AB2 cuts=true)(hr:t.Got.length≤1000)(hw:D2 B1.size (P2 t.Ops t.Got).2.2≤300000):D6 150 [strs cuts,strs (AX7 (t.Got.map H7.Key)),AV.list 3 ((P2 t.Ops t.Got).2.2.map B1.cs)] (ints (U7 cuts t)):=by
  have h:=DF8 cuts (AX7 (t.Got.map H7.Key)) (P2 t.Ops t.Got).2.2 (by rw[BI8,A8];omega) hw;rw[DW5 hc]at h;exact J5 h fun v _=>K2 (i6.2 rfl) G3
theorem Df9 (b:Nat)(w:C7)(k:Nat)(t:B5)(hk:k≤1000)(ht:w.Txns[k]? =some t)(hc:AB2 w.Cuts=true)(hb:CF9 t)(hol:t.Ops.length≤900)(hcg:BI2 t.Got)(hw:D2 B1.size (P2 t.Ops t.Got).2.2≤300000):M0 75 [AV.ptr b 0,AV.int ((k:Int)+1)] [.box b 32 w.cs,.tab Al6] (fun _:Unit=>True) (fun _=>[.box b 32 w.cs,.tab Al6]) (fun _=>AV.tup [AV.agg [strs (AX7 (t.Got.map H7.Key)),AV.list 3 ((P2 t.Ops t.Got).2.2.map B1.cs),ints (U7 w.Cuts t)],AV.bool ((P2 t.Ops t.Got).1==3)]):=by
 have hgl:=hb.got.1;refine C8 func75 rfl ntmps75 rfl ?_;refine R3 ?_;intro b4;refine R10 ?_;refine A1 rfl (C2 rfl M4 U3 zA zA (show w.Txns[((k:Int)+1-1).toNat]? =some t by rw[show ((k:Int)+1-1).toNat=k by omega];exact ht) qz7) ?_;refine R2 ?_;intro b6;refine R8 ?_;refine A1 rfl (Ad5 3 rfl rfl call148 rfl (Cz1 t.Ops t.Got hol hb.ops hb.got.2 hcg) F3 BQ8) ?_;refine R13 ?_;intro b10;refine R11 ?_;refine X5 9 1 ?_;refine zL [1,0] ?_;refine K5 [(0,_),(4,_),(5,_),(7,_),(10,_),(33,_),(34,_)] _ (fun (i:Nat) (v:Value)=>i≤t.Got.length) (fun i v=>[.box b10 125 [AV.is v,AV.list 3 ((P2 t.Ops t.Got).2.2.map B1.cs),AV.nils],.arr v 9 1 (((t.Got.take i).map H7.Key).map fun s=>[AV.str s])]) (fun i v=>[(35,AV.int i)]) (fun i v=>t.Got.length-i) (0) ((E6)) ?_ (I1 B7 A6) ?_
 ·exact E4 _
 intro i v hinv;refine zK ?_ ?_
 ·intro h36 k36;have hlt:i<t.Got.length:=(by simpa using h36);obtain⟨x,hx⟩:=B2 hlt;refine R5 ?_;refine zq91 ?_;intro b12;refine R8 ?_;refine I0 (by':=16) 2 rfl rfl rfl rfl E2 type9 rfl rfl rfl rfl rfl rfl zA zA rfl qz178 ?_;intro v44_1;refine R1 ?_;refine O7 2 rfl fun one_v44_1=> ?_;refine N2 1 rfl rfl rfl zA zA (F6 one_v44_1) rfl AA0 rfl ?_;refine R5 ?_;refine H5 i v (i+1) (v44_1) ?_ ?_ (Le.trans (B4 [0,0,0] rfl) (D5 1 (by (rw[X3,hx,Y3,Y3];rfl)) A6))
  ·exact qz7
  omega
 intro h36 k36;have hge:t.Got.length≤i:=(by simpa using h36);rw[S7 hge];refine R5 ?_;refine zI [1] rfl call149 (BS2 _ (t.Got.map H7.Key) BF8) (A2 (A0 rfl) A9) rfl ?_;intro x49 ok49;refine R2 ?_;refine AWP.le (Am7 [0] 0 (.box b10 125 [strs (AX7 (t.Got.map H7.Key)),AV.list 3 ((P2 t.Ops t.Got).2.2.map B1.cs),AV.nils]) rfl rfl ⟨rfl,rfl,(D7 (K2 (C3 (i:=0) rfl) G3) (D7 H9 (D7 H9 Z6)))⟩ (AB1 3 rfl rfl (AB1 4 rfl rfl M6))) ?_;refine J3 10 E3 E3 rfl ?_;refine R8 ?_;refine B3 rfl rfl (zG rfl call150 (CW1 w.Cuts t hc hgl hw) AD5) ?_;refine R13 ?_;exact I9 [3,3] (()) (trivial) rfl B7 (j6 rfl E5 (G0 (F5 (ys:=_) 2 rfl rfl isAgg125 sizeOf125 rfl) V6))
theorem Ci1 (t:H2)(l:List H2)(x:H2)(hx:0<l.length→l[0]? =some x)(h:t∈l):D6 74 [AV.agg t.cs,AV.eptr [AV.list 3 (l.map H2.cs)]] (AV.bool (!decide (t=x))):=by
  have hl0:0<l.length:=List.length_pos_of_mem h;have hx0:=hx hl0;refine B0 func74 rfl ntmps74 rfl ?_;refine R3 ?_;intro b2;refine R6 ?_;refine B3 rfl rfl (C2 rfl K7 Q2 zA L1 hx0 qz1) ?_;refine R1 ?_;refine zq201 ?_;refine R3 ?_;exact D1 rfl (A5 rfl (by exact F2 AV.bool (CT0 _ _)))
theorem Bm2 (x:H2)(t:B5):D6 77 [AV.agg x.cs,AV.eptr t.cs] (AV.bool (x.Time==t.Time)):=by
  refine B0 func77 rfl ntmps77 rfl ?_;refine R3 ?_;intro b2;refine R12 ?_;exact zq3
theorem okI_at (n:Int)(i:Nat)(s:E1):okI n i s=(((y5 s.Told n).2&&(y5 s.Told n).1.Yes)||(decide (i≠0)&&AO2 s.Held n)):=by
  unfold okI okI.toldFI y5
  cases AD3 s.Told n<;>rfl
theorem DH6 {ss:List E1}{n:Int}{parts:List Int}{i:Nat}{p:Int}(hp:parts[i]? =some p)(h:okI n i (Z5 ss p.toNat)=false):Av5 ss n parts=false:=
  CE7 (G1.1 hp).1 (by show okI n i (Z5 ss (parts.getD i 0).toNat)=false;rw[List.getD_eq_getElem?_getD,hp];exact h)
theorem CN2 (w:C7)(k:Nat)(t:B5)(hk:k≤1000)(ht:w.Txns[k]? =some t)(hss:As4 (O6 w))(hgs:∀s∈O6 w,GS s)(hl:w.Cuts.length<(O6 w).length)(hl3:(O6 w).length≤10)(hcut:AB2 w.Cuts=true)(hb:CF9 t)(hol:t.Ops.length≤900)(hcg:BI2 t.Got)(hwz:D2 B1.size (P2 t.Ops t.Got).2.2≤300000)(hpl:(U7 w.Cuts t).length≤1000000)(htm:0≤t.Time∧t.Time≤100000):D6 18 [AV.wt Al6 (AV.agg w.cs),AV.list 4 ((O6 w).map E1.cs),AV.int k] (AV.bool (Aa8 w (O6 w) k t (U7 w.Cuts t) ((P2 t.Ops t.Got).1==3))):=by
 obtain⟨td,htd⟩:=Aw1 (P8 (O6 w) ((k:Int)+1)) 0;have hgl:=hb.got.1;refine B0 func18 rfl ntmps18 rfl ?_;refine zq195 ?_;refine R3 ?_;intro b3;refine R7 ?_;refine zq156 ?_;intro b7;refine R4 ?_;refine S3 rfl rfl rfl rfl K7 Q2 ?_;intro v27;refine R4 ?_;refine S3 rfl rfl rfl rfl K7 Q2 ?_;intro v28;refine R1 ?_;intro b9;refine O7 1 rfl fun one_v28=> ?_;refine N2 0 rfl rfl rfl zA zA (F6 one_v28) rfl AW1 rfl ?_;refine R9 ?_;refine zL [0,0,0] ?_;refine W1 [(1,_),(2,_),(3,_),(6,_),(7,_),(9,_),(29,_),(30,_)] _ (fun (i:Nat) (v:Value) (u:Value)=>i≤(O6 w).length) (fun i v u=>[.box b9 62 [AV.is v],.arr v 118 3 ((P8 ((O6 w).take i) ((k:Int)+1)).map H2.cs),.arr u 118 3 ((AU5 (P8 ((O6 w).take i) ((k:Int)+1))).map H2.cs)]) (fun i v u=>[(8,AV.is u),(31,AV.int i)]) (fun i v u=>(O6 w).length-i) (0) (v28) (v27) ?_ (I1 B7 A6) ?_
 ·exact E4 _
 intro i v u hinv;refine zK ?_ ?_
 ·intro h32 k32;have hlt:i<(O6 w).length:=(by simpa using h32);obtain⟨s,hsx⟩:=B2 hlt;have hsg:=hgs s (C3 hsx);have hst:=hsg.tlen;have htl2:=BY9 (ss:=(O6 w).take i) (n:=(k:Int)+1);rw[H0]at htl2;have hyl2:=Df7 (P8 ((O6 w).take i) ((k:Int)+1));refine R5 ?_;refine A1 rfl (C2 rfl j9 K8 zA zA hsx qz1) ?_;refine R2 ?_;intro b11;refine R7 ?_;refine zF rfl call72 (Bm1 s ((k:Int)+1) qz7 hsg.tsort) F3 ?_;refine R4 ?_;intro b12;refine zC ?_ ?_
  ·intro h42;refine R5 ?_;refine I0 (by':=24) 3 rfl rfl rfl rfl K7 type118 rfl rfl rfl rfl rfl rfl zA zA rfl BX7 ?_;intro v46_1;refine O7 3 rfl fun one_v46_1=> ?_;refine N2 2 rfl rfl rfl zA zA (F6 one_v46_1) rfl AW1 rfl ?_;refine zC ?_ ?_
   ·intro h48;refine R4 ?_;refine I0 (by':=24) 4 rfl rfl rfl rfl K7 type118 rfl rfl rfl rfl rfl rfl zA zA rfl BX7 ?_;intro v52_2;refine R6 ?_;refine Q8 i v u (i+1) (v46_1) (v52_2) ?_ ?_ (Le.trans (B4 [0,0,0,0,0] rfl) (D5 2 qz77 A6))
    ·exact qz7
    omega
   intro h48;refine R5 ?_;refine Q8 i v u (i+1) (v46_1) (u) ?_ ?_ (Le.trans (B4 [0,0,0,0,0] rfl) (D5 2 qz77 A6))
   ·exact qz7
   omega
  intro h42;refine R5 ?_;refine Q8 i v u (i+1) (v) (u) ?_ ?_ (Le.trans (B4 [0,0,0,0,0] rfl) (D5 2 qz77 A6))
  ·exact qz7
  omega
 intro h32 k32;have hge:(O6 w).length≤i:=(by simpa using h32);rw[S7 hge];refine R3 ?_;refine AWP.le (Am7 [1] 0 (.box b9 62 [AV.list 3 ((P8 (O6 w) ((k:Int)+1)).map H2.cs)]) rfl rfl ⟨rfl,rfl,(D7 (K2 (C3 (i:=0) rfl) G3) Z6)⟩ Af6) ?_;refine R2 ?_;refine A1 rfl (Ag8 rfl rfl G6) ?_;refine A1 rfl (n2 rfl call73 rfl (Ad8 (P8 (O6 w) ((k:Int)+1)) (fun t=>t∈P8 (O6 w) ((k:Int)+1)) (fun t=> !decide (t=td)) (fun t h=>h)) (T9 _) (N7 (evb zA) (N7 (AC7 (AV7 0 zA rfl) (AL4 call74 (fun t h=>Ci1 t _ _ htd h))) o8))) ?_;refine zC ?_ ?_
 ·intro h56;have hsm:(AG4 (P8 (O6 w) ((k:Int)+1))).2=false:=(by rw[Cy5 htd]at h56;simpa using h56);rw[DH3 hsm];exact zq40
 intro h56;have hsm:(AG4 (P8 (O6 w) ((k:Int)+1))).2=true:=(by rw[Cy5 htd]at h56;simpa using h56);refine R3 ?_;refine AWP.le (AI8 [1] 8 rfl rfl (K2 (C3 (i:=0) rfl) G3) Af6) ?_;refine R3 ?_;refine zI [2,2] rfl call75 (Df9 b3 w k t hk ht hcut hb hol hcg hwz) F3 rfl ?_;intro x60 ok60;refine R4 ?_;intro b14;refine zC ?_ ?_
 ·intro h72;rw[A8]at h72;refine R8 ?_;refine E8 [(1,_),(2,_),(3,_),(7,_),(8,_),(74,_),(75,_)] _ (fun (i:Nat)=>i≤(U7 w.Cuts t).length∧(List.range i).all (fun j=>okI ((k:Int)+1) j (Z5 (O6 w) ((U7 w.Cuts t).getD j 0).toNat))=true) (fun i=>[]) (fun i=>[(76,AV.int i)]) (fun i=>(U7 w.Cuts t).length-i) (0) ?_ (I1 B7 A6) ?_
  ·exact zq4
  intro i hinv;refine zK ?_ ?_
  ·intro h77 k77;have hlt:i<(U7 w.Cuts t).length:=(by simpa using h77);obtain⟨p,hp⟩:=B2 hlt;have hpi:=BQ6 (C3 hp);have hst:(O6 w)[p.toNat]? =some (Z5 (O6 w) p.toNat):=BE3 qz7;have hgp:=hgs _ (C3 hst);have hgt:=hgp.tlen;have hgh:=hgp.hlen;refine R6 ?_;refine A1 rfl (C2 rfl D3 E9 zA zA hp qz1) ?_;refine R8 ?_;refine zq215 ?_;refine zF rfl call72 (Bm1 (Z5 (O6 w) p.toNat) ((k:Int)+1) qz7 hgp.tsort) F3 ?_;refine R4 ?_;intro b18;refine R7 ?_;refine zq215 ?_;refine zF rfl call76 (At7 (Z5 (O6 w) p.toNat) ((k:Int)+1) qz7) F3 ?_;refine zC ?_ ?_
   ·intro h114;have hq:okI ((k:Int)+1) i (Z5 (O6 w) p.toNat)=false:=qz98;rw[DW0 hsm h72 (DH6 hp hq)];exact zq40
   intro h114;have hq:okI ((k:Int)+1) i (Z5 (O6 w) p.toNat)=true:=qz98;refine R5 ?_;refine F1 i (i+1) ?_ ?_ (Le.trans (B4 [0] rfl) (D5 1 B7 A6))
   ·exact⟨by omega,Bj5 (p:=fun j=>okI ((k:Int)+1) j (Z5 (O6 w) ((U7 w.Cuts t).getD j 0).toNat)) hinv.2 (by show okI _ _ (Z5 _ ((U7 w.Cuts t).getD i 0).toNat)=true;rw[List.getD_eq_getElem?_getD,hp];exact hq)⟩
   omega
  intro h77 k77;have hil:i=(U7 w.Cuts t).length:=(by have h9:(U7 w.Cuts t).length≤i:=(by simpa using h77);omega);subst hil;rw[Ce6 hsm (.inr hinv.2)];refine zC ?_ ?_
  ·intro h123;rw[show BP2 w (O6 w) k t=true from D9 h123];exact zq40
  intro h123;rw[show BP2 w (O6 w) k t=((((AU5 (P8 (O6 w) ((k:Int)+1))).any fun x=>x.Time==t.Time)&&decide (w.Now>t.Time))&&decide (r6 w.Cuts (O6 w) t.Got (t.Time-1)=t.Got))from D0 (by rw[h123];decide)];refine R4 ?_;refine B3 rfl rfl (Ag8 rfl rfl G6) ?_;refine zq39 ?_;refine R4 ?_;exact zq3
 intro h72;rw[A8]at h72;rw[Ce6 hsm (.inl h72)];refine zC ?_ ?_
 ·intro h123;rw[show BP2 w (O6 w) k t=true from D9 h123];exact zq40
 intro h123;rw[show BP2 w (O6 w) k t=((((AU5 (P8 (O6 w) ((k:Int)+1))).any fun x=>x.Time==t.Time)&&decide (w.Now>t.Time))&&decide (r6 w.Cuts (O6 w) t.Got (t.Time-1)=t.Got))from D0 (by rw[h123];decide)];refine R4 ?_;refine B3 rfl rfl (Ag8 rfl rfl G6) ?_;refine zq39 ?_;refine R4 ?_;exact zq3
end Go.PQ