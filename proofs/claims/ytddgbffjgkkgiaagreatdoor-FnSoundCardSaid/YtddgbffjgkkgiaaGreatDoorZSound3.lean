/- Texts of the claim, part 3. -/
import Derived.Lib.ItoaNum
import Derived.Lib.ItoaMem
import Derived.Lib.Split
import Derived.Lib.SplitLaws
import Derived.Lib.AtoiAllCases
import Derived.Lib.Strings
import Derived.Lib.IndexMore
import Derived.Lib.Join
import Derived.Test.YtddgbffjgkkgiaaGreatDoorProg
import GoSem.ClaimJoined
import GoSem.ClaimMapViews
import Derived.JoinedTies
import Derived.KernelRfl
import Derived.RowKit
import Derived.Test.YtddgbffjgkkgiaaGreatDoorZSound2
set_option linter.defProp false
set_option linter.unusedVariables false
set_option linter.unusedSimpArgs false
set_option maxRecDepth 100000
set_option maxHeartbeats 4000000
namespace Go.M
open Go.AV
def o0 (t:Int):Bool:=within t 0 100000
def AV4 (v:U0):Bool:=Aa2 v.Time&&AL7 v.Val v.Gone
def AP3 (a b:U0):Bool:=decide (a.Time<b.Time)
def Ai5 (c:B8):Bool:=(c.Vers.all AV4&&adj AP3 c.Vers)&&within c.Vers.length 1 16
def AA8 (l:List B8):List Str:=l.map B8.Key
def o1 (l:List B8):Bool:=l.all Ai5&&(decide ((l.length:Int)≤24)&&u4 (AA8 l))
def Ai0 (k:Str)(v:U0):Bool:=within v.Time 1 100000&&Aq3 k v.Val v.Gone
def Ao4 (c:B8):Bool:=(c.Vers.all (Ai0 c.Key)&&adj AP3 c.Vers)&&(y7 c.Key&&within c.Vers.length 1 16)
def u7 (a b:B8):Bool:=Op.bytesLess a.Key b.Key
def BB1 (l:List B8):Bool:=(l.all Ao4&&adj u7 l)&&decide ((l.length:Int)≤24)
theorem CS2 (c:B8):(Ai5 c&&z7 c.Key)=Ao4 c:=by
  unfold Ai5 Ao4;rw[AK7,AI1];simp only[F0,V7];have key:∀v:U0,y7 c.Key=true→(AV4 v=true↔Ai0 c.Key v=true):=fun v hk=>by
    unfold AV4 Ai0 Aa2 Aq3;rw[BG9,hk,Bool.true_and]
  constructor
  · rintro ⟨⟨⟨h1,h2⟩,h3⟩,h4⟩
    exact⟨⟨fun v hv=>(key v h4).1 (h1 v hv),h2⟩,h4,h3⟩
  · rintro ⟨⟨h1,h2⟩,h4,h3⟩
    exact⟨⟨⟨fun v hv=>(key v h4).2 (h1 v hv),h2⟩,h3⟩,h4⟩
theorem AJ5 (l:List B8):o1 l=BB1 l:=by
  unfold o1 BB1 u4 AA8;rw[Bv7,AI1];simp only[F0,V7,n6,forall_exists_index,and_imp,forall_apply_eq_imp_iff₂];constructor
  · rintro ⟨h1,h2,h3,h4⟩
    exact⟨⟨fun c hc=>by rw[←CS2,h1 c hc,h3 c hc];rfl,h4⟩,h2⟩
  · rintro ⟨⟨h1,h4⟩,h2⟩
    have h5:∀c∈l,Ai5 c=true∧z7 c.Key=true:=fun c hc=>by
      have:=h1 c hc;rw[←CS2]at this;simpa using this
    exact⟨fun c hc=>(h5 c hc).1,h2,fun c hc=>(h5 c hc).2,h4⟩
theorem AF3 {l:List B8}(h:o1 l=true):l.length≤24∧adj u7 l=true∧∀c∈l,z7 c.Key=true∧1≤c.Vers.length∧c.Vers.length≤16∧adj AP3 c.Vers=true∧∀v∈c.Vers,AV4 v=true:=by
  rw[AJ5]at h;unfold BB1 at h;simp only[F0,V7,H6]at h;refine⟨by omega,h.1.2,fun c hc=> ?_⟩;have hcell:=h.1.1 c hc;rw[←CS2]at hcell;simp only[F0]at hcell;obtain⟨h1,h2⟩:=hcell;unfold Ai5 at h1;simp only[F0,V7]at h1;have h3:=h1.2;unfold within at h3
  simp at h3;exact⟨h2,by omega,by omega,h1.1.2,h1.1.1⟩
def CF6 (k:Str)(c:B8):Int:=BJ8 c.Key k
def AK2 (l:List B8)(k:Str):Nat:=bs (CF6 k) l 0 l.length
def Ar1 (l:List B8)(k:Str):Bool:=Ao3 (CF6 k) l (AK2 l k)
theorem Ab4 (a b c:B8)(h:u7 a b=true)(k:u7 b c=true):u7 a c=true:=U9 h k
theorem Ca0 {l:List B8}(h:adj u7 l=true)(k:Str):(∀i x,i<AK2 l k→l[i]? =some x→Op.bytesLess x.Key k=true)∧(∀x,l[AK2 l k]? =some x→Op.bytesLess x.Key k=false):=by
  have:=CS1 (CF6 k) l (fun i j x y hij hx hy hf=>by
    unfold CF6 at*;rw[Ap2]at*;exact U9 (Ad6 Ab4 h hij hx hy) hf) l.length 0 l.length rfl (E4 _) (K9 _) (fun k x hk=>by omega) (fun x hx=>by rw[AZ8 (K9 _)]at hx;cases hx)
  refine⟨fun i x hi hx=>(Ap2 _ _).1 (this.1 i x hi hx),fun x hx=> ?_⟩;have h2:=this.2 x hx;unfold CF6 at h2;rw[Ap2]at h2;simpa using h2
theorem Cp7 {α:Type}(f:α→Int)(l:List α):∀(d i j:Nat),j-i=d→i≤j→j≤l.length→bs f l i j≤j:=DJ9
theorem CS3 (l:List B8)(k:Str):AK2 l k≤l.length:=Cp7 _ _ _ _ _ rfl (E4 _) (K9 _)
theorem Av2 {l:List B8}{k:Str}:Ar1 l k=true↔∃x,l[AK2 l k]? =some x∧x.Key=k:=by
  unfold Ar1 Ao3
  cases h:l[AK2 l k]? with
  |none=>simp
  |some x=>simp[CF6,BY6]
def o6 (l:List B8)(k:Str):Option B8:=l.find? fun c=>c.Key==k
theorem DY7 {l:List B8}(ha:adj u7 l=true){i j:Nat}{a b:B8}(hi:l[i]? =some a)(hj:l[j]? =some b)(hk:a.Key=b.Key):i=j:=by
  rcases Nat.lt_trichotomy i j with hlt|heq|hgt
  · have h9:=Ad6 Ab4 ha hlt hi hj
    unfold u7 at h9;rw[hk,N9]at h9;cases h9
  ·exact heq
  · have h9:=Ad6 Ab4 ha hgt hj hi
    unfold u7 at h9;rw[hk,N9]at h9;cases h9
theorem Cp8 {l:List B8}(ha:adj u7 l=true){i:Nat}{c:B8}(hc:l[i]? =some c):o6 l c.Key=some c:=by
  unfold o6
  cases hf:l.find? (fun x=>x.Key==c.Key)with
  |none=>have:=List.find?_eq_none.1 hf c (C3 hc);simp at this
  | some d=>
    have h1:=List.find?_some hf;obtain⟨j,hj⟩:=i5 (Ac4 hf);have:=DY7 ha hj hc (by simpa using h1);subst this;rw[hc]at hj;exact hj.symm
theorem BR7 {l:List B8}(h:adj u7 l=true)(k:Str):o6 l k=if Ar1 l k=true then l[AK2 l k]? else none:=by
  split
  · rename_i hh
    obtain⟨x,hx,hk⟩:=Av2.1 hh;rw[hx,←hk];exact Cp8 h hx
  · rename_i hh
    unfold o6;rw[List.find?_eq_none];intro c hc hk;simp only[m6]at hk;obtain⟨i,hi⟩:=i5 hc;obtain⟨h1,h2⟩:=Ca0 h k;rcases Nat.lt_trichotomy i (AK2 l k)with hlt|heq|hgt
    · have:=h1 i c hlt hi
      rw[hk,N9]at this;cases this
    ·subst heq;exact hh (Av2.2 ⟨c,hi,hk⟩)
    · obtain⟨y,hy⟩:=Go.AV.B2 (show AK2 l k<l.length by have:=(G1.1 hi).1;omega)
      have h3:=h2 y hy;have h4:=Ad6 Ab4 h hgt hy hi;unfold u7 at h4;rw[hk,h3]at h4;cases h4
def atC (l:List B8)(k:Str):Int:=match l.findIdx? (fun c=>c.Key==k)with
  |some i=>(i:Int)
  |none=> -1
theorem atC_some {l:List B8}{k:Str}{i:Nat}{x:B8}(hx:l[i]? =some x)(hk:x.Key=k)(h:∀j y,j<i→l[j]? =some y→y.Key≠k):atC l k=(i:Int):=by
  have hl:=(G1.1 hx);have:l.findIdx? (fun c=>c.Key==k)=some i:=by
    rw[List.findIdx?_eq_some_iff_getElem];refine⟨hl.1,by rw[hl.2];simp[hk],fun j hj=> ?_⟩;have hl1:=hl.1;simpa using h j _ hj (Q5 (show j<l.length by omega))
  unfold atC;rw[this]
theorem atC_none {l:List B8}{k:Str}(h:∀(j:Nat) (y:B8),l[j]? =some y→y.Key≠k):atC l k= -1:=by
  have:l.findIdx? (fun c=>c.Key==k)=none:=by
    rw[List.findIdx?_eq_none_iff];intro x hx;obtain⟨j,hj⟩:=i5 hx;simpa using h j x hj
  unfold atC;rw[this]
theorem CS4 {l:List B8}{k:Str}(h:atC l k<0):o6 l k=none:=by
  unfold atC at h
  cases hf:l.findIdx? (fun c=>c.Key==k)with
  |some i=>rw[hf]at h;simp at h;omega
  | none=>
    rw[List.findIdx?_eq_none_iff]at hf;unfold o6;rw[List.find?_eq_none];intro c hc;simp[hf c hc]
theorem CS5 {l:List B8}{k:Str}(h:¬atC l k<0):∃(p:Nat) (c:B8),atC l k=(p:Int)∧l[p]? =some c∧o6 l k=some c:=by
  cases hf:l.findIdx? (fun c=>c.Key==k)with
  |none=>exfalso;unfold atC at h;rw[hf]at h;exact h E5
  | some i=>
    have he:atC l k=(i:Int):=by unfold atC;rw[hf]
    rw[List.findIdx?_eq_some_iff_getElem]at hf;obtain⟨h1,h2,h3⟩:=hf;refine⟨i,l[i],he,Q5 h1,?_⟩;unfold o6;rw[List.find?_eq_some_iff_getElem];exact⟨h2,i,h1,rfl,fun j hj=>by simpa using h3 j hj⟩
def Cm2 (c:B8):Int:=match c.Vers.getLast? with
  |some v=>v.Time
  |none=>0
def O5 (l:List B8)(k:Str):Int:=match o6 l k with
  |some c=>Cm2 c
  |none=>0
def AE3 (c:B8)(t:Int):Str×Bool:=match c.Vers.reverse.find? (fun v=>decide (v.Time≤t))with
  |some v=>(v.Val,!v.Gone)
  |none=>([],false)
def cellAt (l:List B8)(k:Str)(t:Int):Str×Bool:=match o6 l k with
  |some c=>AE3 c t
  |none=>([],false)
def DM9 (l:List B8)(t:Int):List B1:=l.filterMap fun c=>if (AE3 c t).2=true then some ⟨c.Key,(AE3 c t).1,false⟩else none
def AK3 :List B8→Str→U0→List B8
  |[],k,v=>[⟨k,[v]⟩]
  |c::l,k,v=>if Op.bytesLess c.Key k=true then c::AK3 l k v else if c.Key=k then ⟨k,c.Vers++[v]⟩::l else ⟨k,[v]⟩::c::l
theorem Bw1 {k:Str}{v:U0}:∀{l:List B8} {p:Nat},p≤l.length→(∀i x,i<p→l[i]? =some x→Op.bytesLess x.Key k=true)→(∀x,l[p]? =some x→Op.bytesLess x.Key k=false)→
    (∀x,l[p]? =some x→x.Key=k→AK3 l k v=l.set p ⟨k,x.Vers++[v]⟩)∧((∀x,l[p]? =some x→x.Key≠k)→AK3 l k v=l.take p++⟨k,[v]⟩::l.drop p)
  |[],p,hp,_,_=>by simp at hp;subst hp;exact⟨fun x hx=>by simp at hx,fun _=>rfl⟩
  | c::l,0,_,_,h2=>by
    have h:=h2 c rfl;unfold AK3;rw[h,D0 E5];refine⟨fun x hx hk=> ?_,fun hn=> ?_⟩
    ·simp at hx;subst hx;rw[D9 hk];rfl
    ·rw[D0 (hn c rfl)];rfl
  | c::l,p+1,hp,h1,h2=>by
    have h:=h1 0 c qz7 rfl;obtain⟨i1,i2⟩:=Bw1 (k:=k) (v:=v) (l:=l) (p:=p) (by simpa using hp) (fun i y hi hy=>h1 (i+1) y qz7 BM2) (fun y hy=>h2 y BM2);unfold AK3;rw[D9 h];refine⟨fun x hx hk=> ?_,fun hn=> ?_⟩
    ·rw[i1 x AT0 hk];rfl
    ·rw[i2 fun x hx=>hn x AT0];rfl
def AG3 (l:List B8)(x:B1)(t:Int):List B8:=AK3 l x.Key ⟨t,x.Val,x.Gone⟩
def m8 (l:List B8):List B1→Int→Option (List B8)
  |[],_=>some l
  |x::w,t=>if decide (t≤O5 l x.Key)=true then none else m8 (AG3 l x t) w t
def putCells (l:List B8)(w:List B1)(t:Int):List B8×Bool:=match m8 l w t with
  |none=>([],false)
  |some out=>if (!o1 out)=true then ([],false)else (out,true)
def AN8 (l:List B8):Prop:=adj u7 l=true∧∀c∈l,1≤c.Vers.length
theorem AJ6 {l:List B8}(h:o1 l=true):AN8 l:=⟨(AF3 h).2.1,fun c hc=>((AF3 h).2.2 c hc).2.1⟩
def AL8 (l:List B8)(w:List B1)(t:Int):List B8×Bool:=match m8 l w t with
  |none=>([],false)
  |some out=>(out,BB1 out)
theorem DB6 (l:List B8)(w:List B1)(t:Int):putCells l w t=if (!(AL8 l w t).2)=true then ([],false)else ((AL8 l w t).1,true):=by
  unfold putCells AL8
  cases m8 l w t with
  |none=>rfl
  |some out=>simp only;rw[AJ5]
def B8.ocs (c:B8)(x:Value):List AV:=[AV.str c.Key,AV.is x]
theorem DY8 (d:B8):∀(l:List B8) (k:Str) (v:U0),∃c r,AK3 (d::l) k v=c::r∧(c.Key=d.Key∨c.Key=k):=fun l k v=>by
  unfold AK3;split
  ·exact⟨_,_,rfl,Or.inl rfl⟩
  · split
    ·exact⟨_,_,rfl,Or.inr rfl⟩
    ·exact⟨_,_,rfl,Or.inr rfl⟩
theorem Aw4 {α:Type}{p:α→α→Bool}{x y:α}{l:List α}:adj p (x::y::l)=(p x y&&adj p (y::l)):=rfl
theorem CC7 (k:Str) (v:U0):∀{l:List B8},adj u7 l=true→adj u7 (AK3 l k v)=true
  |[],_=>rfl
  | [c],_=>by
    unfold AK3;by_cases h1:Op.bytesLess c.Key k=true
    ·rw[D9 h1];unfold AK3;simpa [adj,u7]using h1
    · rw[D0 h1]
      by_cases h2:c.Key=k
      ·rw[D9 h2];rfl
      · rw[D0 h2]
        have:=n3 k c.Key;simp[adj,u7]
        simp_all
  | c ::d::l,h=>by
    rw[Aw4,F0]at h;have ih:=CC7 k v (l:=d::l) h.2;unfold AK3;by_cases h1:Op.bytesLess c.Key k=true
    · rw[D9 h1]
      obtain⟨e,r,he,hk⟩:=DY8 d l k v;rw[he]at ih⊢;rw[Aw4,ih,Bool.and_true];have h3:=h.1;unfold u7 at*;rcases hk with hk|hk
      ·rw[hk];exact h3
      ·rw[hk];exact h1
    · rw[D0 h1]
      by_cases h2:c.Key=k
      · rw[D9 h2,Aw4,h.2,Bool.and_true]
        have h3:=h.1;unfold u7 at*;rw[←h2];exact h3
      · rw[D0 h2,Aw4,Aw4,h.1,h.2,Bool.and_true,Bool.and_true]
        have:=n3 k c.Key;unfold u7
        simp_all
theorem Ca1 (k:Str) (v:U0):∀{l:List B8},(∀c∈l,1≤c.Vers.length)→∀c∈AK3 l k v,1≤c.Vers.length
  |[],_,c,hc=>by unfold AK3 at hc;simp at hc;subst hc;simp
  | d ::l,h,c,hc=>by
    have hd:=h d n4;have hl:=fun c hc=>h c (U5 _ hc);unfold AK3 at hc;split at hc
    · rcases T6.1 hc with e|e
      ·subst e;exact hd
      ·exact Ca1 k v hl c e
    · split at hc
      · rcases T6.1 hc with e|e
        ·subst e;simp
        ·exact hl c e
      · rcases T6.1 hc with e|e
        ·subst e;simp
        ·exact h c e
theorem Ab5 {l:List B8}(h:AN8 l)(k:Str)(v:U0):AN8 (AK3 l k v):=⟨CC7 k v h.1,Ca1 k v h.2⟩
theorem i4 {α:Type}{f:α→Nat}{x:α}{l:List α}:D2 f (x::l)=1+f x+D2 f l:=by unfold D2;simp;omega
theorem An2 {α:Type}{f:α→Nat}{l r:List α}:D2 f (l++r)=D2 f l+D2 f r:=by unfold D2;simp;omega
theorem Ca2 (k:Str) (v:U0):∀{l:List B8},D2 B8.size (AK3 l k v)≤D2 B8.size l+(2+k.length+v.Val.length)
  |[]=>by unfold AK3;simp only[i4,B8.size,U0.size];unfold D2;simp;omega
  | d ::l=>by
    have ih:=Ca2 k v (l:=l);unfold AK3;split
    ·simp only[i4];omega
    · split
      · rename_i h;subst h
        simp only[i4,B8.size,An2,U0.size];unfold D2;simp;omega
      ·simp only[i4,B8.size,U0.size];unfold D2;simp;omega
theorem Ah2 (l:List B8)(x:B1)(t:Int):D2 B8.size (AG3 l x t)≤D2 B8.size l+(2+x.size):=by
  unfold AG3 B1.size;have:=Ca2 x.Key ⟨t,x.Val,x.Gone⟩ (l:=l);simp only at this;omega
theorem Cf4 {l:List B8}{k:Str}(h:∀c∈l,c.Key≠k):O5 l k=0:=by
  have:o6 l k=none:=by
    unfold o6;rw[List.find?_eq_none];intro c hc;simpa using h c hc
  unfold O5;rw[this]
theorem Cp9 {l:List B8}{k:Str}{q:Nat}{c:B8}(ha:adj u7 l=true)(hc:l[q]? =some c)(hk:c.Key=k)(v:U0):AK3 l k v=l.set q ⟨k,c.Vers++[v]⟩:=by
  have hq:=(G1.1 hc).1;refine(Bw1 (k:=k) (v:=v) (l:=l) (p:=q) qz7 (fun i x hi hx=> ?_) (fun x hx=> ?_)).1 c hc hk
  · have:=Ad6 Ab4 ha hi hx hc
    unfold u7 at this;rw[hk]at this;exact this
  ·rw[hc]at hx;injection hx with hx;subst hx;rw[hk];exact N9 _
theorem scan_new {l:List B8}{k:Str}{q:Nat}(ha:adj u7 l=true)(hq:q≤l.length)(h1:∀j x,q≤j→l[j]? =some x→Op.bytesLess k x.Key=true)(h2:∀x,0<q→l[q-1]? =some x→Op.bytesLess x.Key k=true)(v:U0):(AK3 l k v=l.take q++⟨k,[v]⟩::l.drop q)∧O5 l k=0:=by
  have hlo:∀i x,i<q→l[i]? =some x→Op.bytesLess x.Key k=true:=fun i x hi hx=>by
    obtain⟨y,hy⟩:=Go.AV.B2 (show q-1<l.length by omega);have h3:=h2 y qz7 hy;rcases Nat.lt_or_ge i (q-1)with hlt|hge
    · have:=Ad6 Ab4 ha hlt hx hy
      exact U9 this h3
    · have:i=q-1:=by omega
      subst this;rw[hx]at hy;injection hy with hy;subst hy;exact h3
  have hhi:∀x,l[q]? =some x→Op.bytesLess x.Key k=false:=fun x hx=>by
    have:=h1 q x (K9 _) hx;have h3:=n3 x.Key k;rw[this]at h3;simpa using h3
  refine⟨(Bw1 (k:=k) (v:=v) hq hlo hhi).2 fun x hx hk=> ?_,Cf4 fun c hc hk=> ?_⟩
  · have:=h1 q x (K9 _) hx
    rw[hk,N9]at this;cases this
  · obtain⟨i,hi⟩:=i5 hc
    rcases Nat.lt_or_ge i q with hlt|hge
    · have:=hlo i c hlt hi
      rw[hk,N9]at this;cases this
    · have:=h1 i c hge hi
      rw[hk,N9]at this;cases this
theorem pos_has {l:List B8}{k:Str}(ha:adj u7 l=true)(h:Ar1 l k=true)(v:U0):∃c,l[AK2 l k]? =some c∧c.Key=k∧AK3 l k v=l.set (AK2 l k) ⟨k,c.Vers++[v]⟩:=by
  obtain⟨c,hc,hk⟩:=Av2.1 h;exact⟨c,hc,hk,Cp9 ha hc hk v⟩
theorem pos_new {l:List B8}{k:Str}(ha:adj u7 l=true)(h:Ar1 l k=false)(v:U0):AK3 l k v=l.take (AK2 l k)++⟨k,[v]⟩::l.drop (AK2 l k):=by
  obtain⟨h1,h2⟩:=Ca0 ha k;refine(Bw1 (k:=k) (v:=v) (CS3 l k) h1 h2).2 fun x hx hk=> ?_;rw[Av2.2 ⟨x,hx,hk⟩]at h;cases h
def zV :U0:=⟨0,[],false⟩
def Ak8 (l:List U0)(t:Int):Option U0:=l.reverse.find? fun v=>decide (v.Time≤t)
theorem DP0 {l:List U0}{i:Nat}{x:U0}{t:Int}(hx:l[i]? =some x):Ak8 (l.take (i+1)) t=if x.Time≤t then some x else Ak8 (l.take i) t:=by
  unfold Ak8;rw[X3,hx,Option.toList_some,List.reverse_append];show List.find? _ (x::(l.take i).reverse)=_
  rw[List.find?_cons];by_cases h:x.Time≤t
  ·rw[D9 h,W6 h]
  ·rw[D0 h,AC1 h]
theorem Cf5 (c:B8)(t:Int):AE3 c t=(((Ak8 c.Vers t).getD zV).Val,(Ak8 c.Vers t).isSome&& !((Ak8 c.Vers t).getD zV).Gone):=by
  unfold AE3 Ak8
  cases c.Vers.reverse.find? (fun v=>decide (v.Time≤t))<;>rfl
theorem By3 {l:List B8}{k:Str}{t:Int}(h:o6 l k=none):cellAt l k t=([],false):=by unfold cellAt;rw[h]
theorem By4 {l:List B8}{k:Str}{t:Int}{c:B8}(h:o6 l k=some c):cellAt l k t=AE3 c t:=by unfold cellAt;rw[h]
def N5.ocs (c:N5)(x:Value×Value):List AV:=[AV.int c.Kind,AV.int c.Txn,AV.int c.Time,AV.int c.Lead,AV.is x.1,AV.is x.2,AV.bool c.Yes]
theorem AE5 {α:Type}{f:α→Nat}{c:Nat}:∀{l:List α},(∀x∈l,f x≤c)→D2 f l≤l.length*(c+1)
  |[],_=>by simp[D2]
  | x::l,h=>by
    rw[i4];have h1:=h x n4;have h2:=AE5 (l:=l) fun y hy=>h y (U5 _ hy);rw[J7,Nat.add_mul];omega
theorem Bo7 {s:Str}(h:z7 s=true):s.length≤12:=by
  unfold z7 within at h
  simp only[F0,H6]at h;omega
theorem DP1 {s:Str}{g:Bool}(h:AL7 s g=true):s.length≤24:=by
  unfold AL7 AV3 at h;simp only[F0,H6]at h;omega
theorem BJ0 {l:List B8}(h:o1 l=true):D2 B8.size l≤9912:=by
  obtain⟨h1,_,h3⟩:=AF3 h;have:∀c∈l,c.size≤412:=fun c hc=>by
    obtain⟨k1,k2,k3,_,k5⟩:=h3 c hc;have e1:=Bo7 k1;have e2:=AE5 (f:=U0.size) (c:=24) (l:=c.Vers) fun v hv=>by
      have:=k5 v hv;unfold AV4 at this;simp only[F0]at this;exact DP1 this.2
    unfold B8.size;omega
  have h4:=AE5 this;omega
theorem Bo8 {α:Type}{p:α→α→Bool}(tr:∀a b c,p a b=true→p b c=true→p a c=true):∀{l:List α},adj p l=true↔l.Pairwise fun a b=>p a b=true
  |[]=>by simp[adj]
  |[x]=>by simp[adj]
  | x ::y::l=>by
    constructor
    · intro h
      refine AD9.2 ⟨Bv8 tr h,?_⟩;exact(Bo8 tr).1 (Bg7 h)
    · intro h
      obtain⟨h1,h2⟩:=AD9.1 h;rw[Aw4,h1 y n4,(Bo8 tr).2 h2];rfl
def BK0 (l:List B8)(k:Str):List U0:=match o6 l k with
  |some c=>c.Vers
  |none=>[]
theorem AK8 (c:B8)(l:List B8)(k:Str):o6 (c::l) k=if c.Key=k then some c else o6 l k:=by
  unfold o6;rw[List.find?_cons];by_cases h:c.Key=k
  ·rw[D9 h,m6.2 h]
  ·rw[D0 h,beq_eq_false_iff_ne.2 h]
theorem findC_gt {l:List B8}{k:Str}(h:∀c∈l,Op.bytesLess k c.Key=true):o6 l k=none:=by
  unfold o6;rw[List.find?_eq_none];intro c hc he;have:=h c hc;simp only[m6]at he;rw[he,N9]at this;cases this
theorem Cq0 {k:Str} {v:U0}:∀{l:List B8},adj u7 l=true→o6 (AK3 l k v) k=some ⟨k,BK0 l k++[v]⟩
  |[],_=>by unfold AK3;rw[AK8,D9 rfl];rfl
  | c ::l,ha=>by
    have hal:=Bg7 ha;unfold AK3;by_cases h1:Op.bytesLess c.Key k=true
    · have hne:c.Key≠k:=fun e=>by rw[e,N9]at h1;cases h1
      rw[D9 h1,AK8,D0 hne,Cq0 hal];unfold BK0;rw[AK8,D0 hne]
    · rw[D0 h1]
      by_cases h2:c.Key=k
      · rw[D9 h2,AK8,D9 rfl]
        unfold BK0;rw[AK8,D9 h2]
      · rw[D0 h2,AK8,D9 rfl]
        have hk:Op.bytesLess k c.Key=true:=by have:=n3 k c.Key;simp_all
        have hn:o6 (c::l) k=none:=findC_gt fun d hd=>by
          rcases T6.1 hd with e|e
          ·subst e;exact hk
          ·exact U9 hk (Bv8 Ab4 ha d e)
        unfold BK0;rw[hn];rfl
theorem BD2 {k k':Str} {v:U0} (hk:k'≠k):∀{l:List B8},o6 (AK3 l k v) k'=o6 l k'
  |[]=>by unfold AK3;rw[AK8,D0 (fun e=>hk e.symm)]
  | c ::l=>by
    unfold AK3;split
    ·rw[AK8,AK8,BD2 hk]
    · split
      · rename_i h2
        rw[AK8,AK8,D0 (fun e=>hk e.symm),D0 (fun e=>hk (e.symm.trans h2))]
      ·rw[AK8,D0 (fun e=>hk e.symm)]
theorem Bg9 {t:Int}:∀{w:List B1} {l out:List B8},(w.map B1.Key).Nodup→adj u7 l=true→m8 l w t=some out→
    (∀x∈w,o6 out x.Key=some ⟨x.Key,BK0 l x.Key++[⟨t,x.Val,x.Gone⟩]⟩)∧∀k,k∉w.map B1.Key→o6 out k=o6 l k
  |[],l,out,_,_,h=>by simp[m8]at h;subst h;simp
  | y :: w, l,out,hn,ha,h=>by
    unfold m8 at h;split at h
    ·cases h
    · rw[m4,List.nodup_cons]at hn
      obtain⟨i1,i2⟩:=Bg9 hn.2 (CC7 y.Key ⟨t,y.Val,y.Gone⟩ ha) h;refine⟨fun x hx=> ?_,fun k hk=> ?_⟩
      · rcases T6.1 hx with e|e
        · subst e
          rw[i2 _ hn.1];exact Cq0 ha
        · rw[i1 x e]
          have hne:x.Key≠y.Key:=fun e2=>hn.1 (e2▸List.mem_map_of_mem e);have:BK0 (AG3 l y t) x.Key=BK0 l x.Key:=by
            unfold BK0 AG3;rw[BD2 hne]
          unfold AG3 at this;rw[this]
      · simp only[m4,T6,not_or]at hk
        rw[i2 k hk.2];exact BD2 hk.1
theorem Cq1 {w:List B1}(h:AI3 w=true):(w.map B1.Key).Nodup:=by
  unfold AI3 u4 O8 at h;simp only[F0]at h;have ha:=h.1.2.2;rw[List.Nodup];refine((Bo8 (p:=fun a b=>Op.bytesLess a b) (fun a b c h k=>U9 h k)).1 ha).imp fun {a b} hab e=> ?_;rw[e,N9]at hab;cases hab
def AW5 (h:E0):N5:=⟨1,h.Txn,h.Time,h.Lead,h.Reads,h.Writes,false⟩
def hOf (r:N5):E0:=⟨r.Txn,r.Time,r.Lead,r.Reads,r.Writes⟩
def AW6 (l:List B1)(k:Str):Bool:=l.any fun w=>w.Key==k
def BT8 (l:List Str)(k:Str):Bool:=l.any fun x=>k==x
theorem Ab6 {l:List B1}{k:Str}:AW6 l k=true↔∃w∈l,w.Key=k:=by unfold AW6;simp
theorem BD3 {l:List Str}{k:Str}:BT8 l k=true↔k∈l:=by unfold BT8;simp
def Bd5 (ws:List B1)(rs:List Str)(os:List B1):Bool:=ws.any fun w=>AW6 os w.Key||BT8 rs w.Key
def Aq4 (h k:E0):Bool:=Bd5 h.Writes k.Reads k.Writes||Bd5 k.Writes h.Reads h.Writes
def apart (h:E0)(rs:List Str)(ws:List B1):Bool:=rs.all (fun k=> !AW6 h.Writes k)&&ws.all (fun w=> !(AW6 h.Writes w.Key||BT8 h.Reads w.Key))
theorem BJ1 {h:E0}{rs:List Str}{ws:List B1}:apart h rs ws=true↔(∀k∈rs,∀w∈h.Writes,w.Key≠k)∧(∀w∈ws,(∀v∈h.Writes,v.Key≠w.Key)∧w.Key∉h.Reads):=by
  unfold apart;simp only[F0,V7,n5,v9];constructor
  · rintro ⟨h1,h2⟩
    refine⟨fun k hk w hw e=> ?_,fun w hw=>⟨fun v hv e=> ?_,fun hr=> ?_⟩⟩
    ·have:=h1 k hk;rw[Ab6.2 ⟨w,hw,e⟩]at this;cases this
    ·have:=(h2 w hw).1;rw[Ab6.2 ⟨v,hv,e⟩]at this;cases this
    ·have:=(h2 w hw).2;rw[BD3.2 hr]at this;cases this
  · rintro ⟨h1,h2⟩
    refine⟨fun k hk=> ?_,fun w hw=>⟨?_,?_⟩⟩
    · cases e:AW6 h.Writes k with
      |false=>rfl
      |true=>obtain⟨v,hv,ev⟩:=Ab6.1 e;exact(h1 k hk v hv ev).elim
    · cases e:AW6 h.Writes w.Key with
      |false=>rfl
      |true=>obtain⟨v,hv,ev⟩:=Ab6.1 e;exact((h2 w hw).1 v hv ev).elim
    · cases e:BT8 h.Reads w.Key with
      |false=>rfl
      |true=>exact((h2 w hw).2 (BD3.1 e)).elim
theorem BY7 (h g:E0):Aq4 h g= !apart g h.Reads h.Writes:=by
  cases ha:apart g h.Reads h.Writes with
  | true=>
    obtain⟨h1,h2⟩:=BJ1.1 ha;refine Bool.eq_false_iff.2 fun hc=> ?_;unfold Aq4 Bd5 at hc;simp only[AC0,List.any_eq_true]at hc;rcases hc with ⟨w,hw,e|e⟩|⟨w,hw,e|e⟩
    ·obtain⟨v,hv,ev⟩:=Ab6.1 e;exact(h2 w hw).1 v hv ev
    ·exact(h2 w hw).2 (BD3.1 e)
    ·obtain⟨v,hv,ev⟩:=Ab6.1 e;exact(h2 v hv).1 w hw ev.symm
    ·exact h1 _ (BD3.1 e) w hw rfl
  | false=>
    rw[Bool.not_false]
    cases hc:Aq4 h g with
    |true=>rfl
    | false=>
      rw[←ha,BJ1.2];unfold Aq4 Bd5 at hc;simp only[v9,List.any_eq_false,AC0,not_or]at hc;refine⟨fun k hk w hw e=>(hc.2 w hw).2 (BD3.2 (e▸hk)),fun w hw=>⟨fun v hv e=>(hc.1 w hw).1 (Ab6.2 ⟨v,hv,e⟩),fun hr=>(hc.1 w hw).2 (BD3.2 hr)⟩⟩
theorem Bo9 {h:E0}{rs:List Str}{ws:List B1}{t m l:Int}(ha:apart h rs ws=true):apart ⟨t,m,l,rs,ws⟩ h.Reads h.Writes=true:=by
  obtain⟨h1,h2⟩:=BJ1.1 ha;exact BJ1.2 ⟨fun k hk w hw e=>(h2 w hw).2 (e▸hk),fun w hw=>⟨fun v hv e=>(h2 v hv).1 w hw e.symm,fun hr=>h1 _ hr w hw rfl⟩⟩
def Ak9 (cells:List B8)(k:Str):Bool:=match o6 cells k with
  |some c=>decide (16≤c.Vers.length)
  |none=>false
def hWs (l:List E0):List B1:=(l.map E0.Writes).flatten
def As1 (cells:List B8)(ws:List B1):List Str:=AI4 (AA8 cells++O8 ws)
def room (cells:List B8)(ws:List B1):Bool:=ws.all (fun w=> !Ak9 cells w.Key)&&decide ((As1 cells ws).length≤24)
theorem Bh0 (a b:List E0):hWs (a++b)=hWs a++hWs b:=by unfold hWs;simp
theorem BD4 (a:E0)(b:List E0):hWs (a::b)=a.Writes++hWs b:=by unfold hWs;simp
theorem BD5 {l:List E0}{w:B1}:w∈hWs l↔∃h∈l,w∈h.Writes:=by
  unfold hWs;simp only[List.mem_flatten,n6];constructor
  ·rintro ⟨_,⟨a,ha,rfl⟩,hw⟩;exact⟨a,ha,hw⟩
  ·rintro ⟨h,hh,hw⟩;exact⟨_,⟨h,hh,rfl⟩,hw⟩
theorem CI3 {cells:List B8}{ws:List B1}{k:Str}:k∈As1 cells ws↔k∈AA8 cells∨k∈O8 ws:=by
  unfold As1;rw[Aw3,y6]
theorem DP2 {l:List Str}(h:AP2 l):l.Nodup:=h.imp fun {a b} hab e=>by rw[e,N9]at hab;cases hab
theorem CC8 {α:Type}[BEq α][LawfulBEq α]:∀{a b:List α},a.Nodup→(∀x∈a,x∈b)→a.length≤b.length
  |[],_,_,_=>E4 _
  | x::a,b,ha,h=>by
    obtain⟨h1,h2⟩:=List.nodup_cons.1 ha;have hx:=h x n4;have ih:=CC8 (b:=b.erase x) h2 fun y hy=>(List.mem_erase_of_ne (fun e:y=x=>h1 (by rw[←e];exact hy))).2 (h y (U5 _ hy));rw[List.length_erase_of_mem hx]at ih;have:=List.length_pos_of_mem hx;rw[J7];omega
theorem srtS_le {a b:List Str}(ha:AP2 a)(h:∀x∈a,x∈b):a.length≤b.length:=CC8 (DP2 ha) h
theorem Bp0 {c1 c2:List B8}{w1 w2:List B1}(h:∀k,k∈AA8 c1∨k∈O8 w1→k∈AA8 c2∨k∈O8 w2):(As1 c1 w1).length≤(As1 c2 w2).length:=
  srtS_le (BI9 _) fun k hk=>CI3.2 (h k (CI3.1 hk))
theorem Ca3 {cells:List B8}{a b:List B1}(h:∀w,w∈a↔w∈b):room cells a=room cells b:=by
  unfold room;have h1:a.all (fun w=> !Ak9 cells w.Key)=b.all (fun w=> !Ak9 cells w.Key):=by
    rw[AI1,V7,V7];exact⟨fun k w hw=>k w ((h w).2 hw),fun k w hw=>k w ((h w).1 hw)⟩
  have hk:∀k,k∈O8 a↔k∈O8 b:=fun k=>by unfold O8;simp only[n6];exact⟨fun ⟨w,hw,e⟩=>⟨w,(h w).1 hw,e⟩,fun ⟨w,hw,e⟩=>⟨w,(h w).2 hw,e⟩⟩
  have h2:(As1 cells a).length=(As1 cells b).length:=Nat.le_antisymm (Bp0 fun k hk2=>by rw[hk]at hk2;exact hk2) (Bp0 fun k hk2=>by rw[←hk]at hk2;exact hk2);rw[h1,h2]
def BE7 (n:Nat)(p:Nat→Bool):Bool:=(List.range n).all p
theorem An3 {n:Nat}{p:Nat→Bool}:BE7 n p=true↔∀i,i<n→p i=true:=by unfold BE7;simp
theorem AP8 {n i:Nat}{p:Nat→Bool}(hi:i<n)(h:p i=false):BE7 n p=false:=by
  cases e:BE7 n p with
  |false=>rfl
  |true=>rw[An3.1 e i hi]at h;cases h
def AO2 (l:List E0)(n:Int):Bool:=l.any fun h=>h.Txn==n
def AU2 (l:List H2)(n:Int):Bool:=l.any fun t=>t.Txn==n
def CO7 (l:List E0)(i:Nat)(n:Int):Bool:=match l[i-1]? with
  |some g=> !(decide (0<i)&&decide (n≤g.Txn))
  |none=>true
def CO8 (l:List H2)(i:Nat)(n:Int):Bool:=match l[i-1]? with
  |some g=> !(decide (0<i)&&decide (n≤g.Txn))
  |none=>true
def Aa3 (s:E1)(i:Nat):Bool:=match s.Held[i]? with
  |none=>true
  |some h=>(((T8 (AW5 h)&& !decide (s.Floor<h.Time))&&CO7 s.Held i h.Txn)&&(s.Held.take i).all fun g=>apart g h.Reads h.Writes)&&h.Writes.all fun w=>decide (O5 s.Cells w.Key<h.Time)
def AG1 (s:E1):Bool:=BE7 s.Held.length (Aa3 s)&&(decide (s.Held.length≤12)&&room s.Cells (hWs s.Held))
def BP1 (s:E1)(t:H2):Bool:=if t.Yes=true then within t.Time 1 s.Floor else t.Time==0
def Ai6 (s:E1)(i:Nat):Bool:=match s.Told[i]? with
  |none=>true
  |some t=>((AS7 t.Txn&&BP1 s t)&&CO8 s.Told i t.Txn)&& !AO2 s.Held t.Txn
def V1 (s:E1):Bool:=((((o0 s.Floor&&o1 s.Cells)&&AG1 s)&&decide (s.Told.length≤60))&&s.Cells.all fun c=>decide (O5 s.Cells c.Key≤s.Floor))&&BE7 s.Told.length (Ai6 s)
structure GS (s:E1):Prop where
  floor:0≤s.Floor∧s.Floor≤100000
  cells:o1 s.Cells=true
  good:∀h∈s.Held,T8 (AW5 h)=true∧h.Time≤s.Floor∧∀w∈h.Writes,O5 s.Cells w.Key<h.Time
  hsort:s.Held.Pairwise fun a b=>a.Txn<b.Txn
  apart:s.Held.Pairwise fun a b=>apart a b.Reads b.Writes=true
  hlen:s.Held.length≤12
  room:room s.Cells (hWs s.Held)=true
  tlen:s.Told.length≤60
  last:∀c∈s.Cells,O5 s.Cells c.Key≤s.Floor
  told:∀t∈s.Told,AS7 t.Txn=true∧BP1 s t=true∧AO2 s.Held t.Txn=false
  tsort:s.Told.Pairwise fun a b=>a.Txn<b.Txn
theorem Bh1 {α:Type} {f:α→Int} {l:List α} (h:∀(i:Nat) (x y:α),0<i→l[i]? =some x→l[i-1]? =some y→f y<f x):l.Pairwise fun a b=>f a<f b:=by
  have key:∀(j i:Nat) (x y:α),i<j→l[j]? =some x→l[i]? =some y→f y<f x:=by
    intro j;induction j with
    |zero=>intro i x y hi;omega
    | succ j ih=>
      intro i x y hi hx hy;have hj:=(G1.1 hx).1;have hz:=Q5 (show j<l.length by omega);have h1:=h (j+1) x _ qz7 hx hz;rcases Nat.lt_or_ge i j with h2|h2
      ·have:=ih i _ y h2 hz hy;omega
      · have:i=j:=by omega
        subst this;rw[hz]at hy;injection hy with hy;subst hy;exact h1
  rw[List.pairwise_iff_getElem];intro i j hi hj hij;exact key j i _ _ hij (Q5 hj) (Q5 hi)
theorem Bp1 {l:List E0}{i:Nat}{n:Int}:CO7 l i n=true↔∀g,0<i→l[i-1]? =some g→g.Txn<n:=by
  unfold CO7
  cases h:l[i-1]? with
  |none=>simp
  | some g=>
    simp only[n5,Bool.and_eq_false_iff,AB8];exact⟨fun k y h0 e=>by injection e with e;subst e;omega,fun k=>if h0:0<i then .inr (by have:=k g h0 rfl;omega)else .inl h0⟩
theorem Ca4 {l:List H2}{i:Nat}{n:Int}:CO8 l i n=true↔∀g,0<i→l[i-1]? =some g→g.Txn<n:=by
  unfold CO8
  cases h:l[i-1]? with
  |none=>simp
  | some g=>
    simp only[n5,Bool.and_eq_false_iff,AB8];exact⟨fun k y h0 e=>by injection e with e;subst e;omega,fun k=>if h0:0<i then .inr (by have:=k g h0 rfl;omega)else .inl h0⟩
theorem Ca5 {α:Type}{p:α→α→Prop}{l:List α}:l.Pairwise p↔∀(i:Nat) (x:α),l[i]? =some x→∀y∈l.take i,p y x:=by
  rw[List.pairwise_iff_getElem];constructor
  · intro h i x hx y hy
    obtain⟨j,hj⟩:=i5 hy;have hi:=(G1.1 hx);have hjl:=(G1.1 hj).1;rw[H0]at hjl;rw[AD6 qz7]at hj;have hj2:=(G1.1 hj);obtain⟨hi1,hi2⟩:=hi;obtain⟨hj3,hj4⟩:=hj2;have:=h j i hj3 hi1 qz7;rw[hi2,hj4]at this;exact this
  · intro h i j hi hj hij
    refine h j _ (Q5 hj) _ (C3 (i:=i) ?_);rw[AD6 hij];exact Q5 hi
theorem AH7 {s:E1}:V1 s=true↔GS s:=by
  unfold V1 AG1;simp only[F0,H6,An3,V7];constructor
  · rintro ⟨⟨⟨⟨⟨h1,h2⟩,h3,h4,h5⟩,h6⟩,h7⟩,h8⟩
    have hh:∀(i:Nat) (h:E0),s.Held[i]? =some h→T8 (AW5 h)=true∧h.Time≤s.Floor∧(∀g,0<i→s.Held[i-1]? =some g→g.Txn<h.Txn)∧(∀g∈s.Held.take i,apart g h.Reads h.Writes=true)∧∀w∈h.Writes,O5 s.Cells w.Key<h.Time:=fun i h hi=>by
      have:=h3 i (G1.1 hi).1;unfold Aa3 at this;rw[hi]at this;simp only[F0,V7,H6,Bp1,n5,AB8]at this;exact⟨this.1.1.1.1,by omega,this.1.1.2,this.1.2,this.2⟩
    have ht:∀(i:Nat) (t:H2),s.Told[i]? =some t→AS7 t.Txn=true∧BP1 s t=true∧(∀g,0<i→s.Told[i-1]? =some g→g.Txn<t.Txn)∧AO2 s.Held t.Txn=false:=fun i t hi=>by
      have:=h8 i (G1.1 hi).1;unfold Ai6 at this;rw[hi]at this;simp only[F0,Ca4,n5]at this;exact⟨this.1.1.1,this.1.1.2,this.1.2,this.2⟩
    unfold o0 within at h1
    simp only[F0,H6]at h1;refine⟨h1,h2,fun h hm=> ?_,Bh1 fun i x y h0 hx hy=>(hh i x hx).2.2.1 y h0 hy,Ca5.2 fun i x hx=>(hh i x hx).2.2.2.1,h4,h5,h6,h7,fun t hm=> ?_,Bh1 fun i x y h0 hx hy=>(ht i x hx).2.2.1 y h0 hy⟩
    · obtain⟨i,hi⟩:=i5 hm
      have:=hh i h hi;exact⟨this.1,this.2.1,this.2.2.2.2⟩
    · obtain⟨i,hi⟩:=i5 hm
      have:=ht i t hi;exact⟨this.1,this.2.1,this.2.2.2⟩
  · intro g
    have hch:∀{α:Type} {f:α→Int} {l:List α},(l.Pairwise fun a b=>f a<f b)→∀(i:Nat) (x y:α),0<i→l[i]? =some x→l[i-1]? =some y→f y<f x:=fun {α f l} hp i x y h0 hx hy=>by
      obtain⟨hx1,hx2⟩:=G1.1 hx;obtain⟨hy1,hy2⟩:=G1.1 hy;have:=List.pairwise_iff_getElem.1 hp (i-1) i hy1 hx1 qz7;rw[hx2,hy2]at this;exact this
    refine⟨⟨⟨⟨⟨?_,g.cells⟩,fun i hi=> ?_,g.hlen,g.room⟩,g.tlen⟩,g.last⟩,fun i hi=> ?_⟩
    ·unfold o0 within;simp[g.floor]
    · unfold Aa3
      rw[Q5 hi];have hx:=Q5 hi;obtain⟨g1,g2,g3⟩:=g.good _ (C3 hx);simp only[F0,V7,H6,Bp1,n5,AB8];exact⟨⟨⟨⟨g1,by omega⟩,fun y h0 hy=>hch g.hsort i _ y h0 hx hy⟩,fun y hy=>Ca5.1 g.apart i _ hx y hy⟩,g3⟩
    · unfold Ai6
      rw[Q5 hi];have hx:=Q5 hi;obtain⟨g1,g2,g3⟩:=g.told _ (C3 hx);simp only[F0,Ca4,n5];exact⟨⟨⟨g1,g2⟩,fun y h0 hy=>hch g.tsort i _ y h0 hx hy⟩,g3⟩
def Ac2 (h:E0):List E0→List E0
  |[]=>[h]
  |g::l=>if h.Txn<g.Txn then h::g::l else g::Ac2 h l
def AY1 (h:H2):List H2→List H2
  |[]=>[h]
  |g::l=>if h.Txn<g.Txn then h::g::l else g::AY1 h l
def AC2 (l:List E0)(n:Int):List E0:=l.filter fun h=>h.Txn !=n
def AE1 (l:List E0)(n:Int):Option E0:=l.find? fun h=>h.Txn==n
def AD3 (l:List H2)(n:Int):Option H2:=l.find? fun t=>t.Txn==n
def fits (s:E1)(rs:List Str)(ws:List B1):Bool:=(s.Held.all fun h=>apart h rs ws)&&(decide (s.Held.length<12)&&room s.Cells (hWs s.Held++ws))
def AQ2 (s:E1)(r:N5)(fl:Int)(q:List B8):E1:=⟨fl,q,AC2 s.Held r.Txn,AY1 ⟨r.Txn,r.Yes,r.Time⟩ s.Told⟩
def Y2 (s:E1) (r:N5):E1×Bool:=
  if r.Kind=4 then (⟨r.Time,s.Cells,s.Held,s.Told⟩,decide (s.Floor<r.Time))
  else if AU2 s.Told r.Txn=true then (s,false)
  else if r.Kind=1 then (⟨r.Time,s.Cells,Ac2 (hOf r) s.Held,s.Told⟩,(!AO2 s.Held r.Txn&&decide (s.Floor<r.Time))&&fits s r.Reads r.Writes)
  else if r.Yes=true then (match AE1 s.Held r.Txn with
    |none=>(s,false)
    |some h=>if r.Time<h.Time then (s,false)else if (AL8 s.Cells h.Writes r.Time).2=true then (AQ2 s r (if s.Floor<r.Time then r.Time else s.Floor) (AL8 s.Cells h.Writes r.Time).1,true)else (s,false))
  else (AQ2 s r s.Floor s.Cells,true)
def V0 :E1:=⟨0,[],[],[]⟩
def AK9 (s:E1)(r:N5):E1:=if (Y2 s r).2=true then (Y2 s r).1 else s
def Z2 (s:E1)(l:List N5):E1:=l.foldl AK9 s
def Ae8 (s:E1):List N5→List Bool
  |[]=>[]
  |r::l=>(Y2 s r).2::Ae8 (AK9 s r) l
theorem BJ2 (h:E0):∀l,(Ac2 h l).Perm (h::l)
  |[]=>List.Perm.refl _
  | g::l=>by
    unfold Ac2;split
    ·exact List.Perm.refl _
    ·exact(List.Perm.cons g (BJ2 h l)).trans (List.Perm.swap h g l)
theorem Bp2 (h:H2):∀l,(AY1 h l).Perm (h::l)
  |[]=>List.Perm.refl _
  | g::l=>by
    unfold AY1;split
    ·exact List.Perm.refl _
    ·exact(List.Perm.cons g (Bp2 h l)).trans (List.Perm.swap h g l)
theorem An4 {h x:E0}{l:List E0}:x∈Ac2 h l↔x=h∨x∈l:=by rw[(BJ2 h l).mem_iff,T6]
theorem Cq2 {h x:H2}{l:List H2}:x∈AY1 h l↔x=h∨x∈l:=by rw[(Bp2 h l).mem_iff,T6]
theorem Bp3 {h:E0}:∀{l:List E0},(l.Pairwise fun a b=>a.Txn<b.Txn)→(∀g∈l,g.Txn≠h.Txn)→(Ac2 h l).Pairwise fun a b=>a.Txn<b.Txn
  |[],_,_=>by unfold Ac2;simp
  | g ::l,hs,hn=>by
    obtain⟨h1,h2⟩:=AD9.1 hs;have hg:=hn g n4;unfold Ac2;split
    · rename_i hlt
      refine AD9.2 ⟨fun y hy=> ?_,hs⟩;rcases T6.1 hy with rfl|hy
      ·exact hlt
      ·have:=h1 y hy;omega
    · refine AD9.2 ⟨fun y hy=> ?_,Bp3 h2 fun y hy=>hn y (U5 _ hy)⟩
      rcases An4.1 hy with rfl|hy
      ·omega
      ·exact h1 y hy
theorem Bp4 {h:H2}:∀{l:List H2},(l.Pairwise fun a b=>a.Txn<b.Txn)→(∀g∈l,g.Txn≠h.Txn)→(AY1 h l).Pairwise fun a b=>a.Txn<b.Txn
  |[],_,_=>by unfold AY1;simp
  | g ::l,hs,hn=>by
    obtain⟨h1,h2⟩:=AD9.1 hs;have hg:=hn g n4;unfold AY1;split
    · rename_i hlt
      refine AD9.2 ⟨fun y hy=> ?_,hs⟩;rcases T6.1 hy with rfl|hy
      ·exact hlt
      ·have:=h1 y hy;omega
    · refine AD9.2 ⟨fun y hy=> ?_,Bp4 h2 fun y hy=>hn y (U5 _ hy)⟩
      rcases Cq2.1 hy with rfl|hy
      ·omega
      ·exact h1 y hy
theorem hasH_iff {l:List E0}{n:Int}:AO2 l n=true↔∃h∈l,h.Txn=n:=by unfold AO2;simp
theorem Ab7 {l:List E0}{n:Int}:AO2 l n=false↔∀h∈l,h.Txn≠n:=by unfold AO2;simp
theorem hasT_iff {l:List H2}{n:Int}:AU2 l n=true↔∃h∈l,h.Txn=n:=by unfold AU2;simp
theorem Bh2 {l:List H2}{n:Int}:AU2 l n=false↔∀h∈l,h.Txn≠n:=by unfold AU2;simp
theorem Ag0 {l:List E0}{n:Int}{h:E0}:h∈AC2 l n↔h∈l∧h.Txn≠n:=by unfold AC2;simp
theorem CI4 :∀{l:List H2} {a:Int},(l.Pairwise fun a b=>a.Txn<b.Txn)→(∀t∈l,a<t.Txn∧t.Txn≤60)→l.length≤(60-a).toNat
  |[],_,_,_=>E4 _
  | t::l,a,hs,h=>by
    obtain⟨h1,h2⟩:=AD9.1 hs;have ht:=h t n4;have:=CI4 (a:=t.Txn) h2 fun u hu=>⟨h1 u hu,(h u (U5 _ hu)).2⟩;rw[J7];omega
theorem DP3 {n:Int}:AS7 n=true↔1≤n∧n≤60:=by unfold AS7 within;simp
theorem Ba8 {a b:List B8}{k:Str}(h:o6 a k=o6 b k):O5 a k=O5 b k:=by unfold O5;rw[h]
theorem DB7 {a b:List B8}{k:Str}(h:o6 a k=o6 b k):Ak9 a k=Ak9 b k:=by unfold Ak9;rw[h]
theorem Bp5 {l:List B8}{k:Str}{c:B8}(h:o6 l k=some c):c∈l∧c.Key=k:=by
  unfold o6 at h;exact⟨Ac4 h,by simpa using List.find?_some h⟩
theorem DK1 {s:E1}(g:GS s)(k:Str):O5 s.Cells k≤s.Floor:=by
  have h0:=g.floor.1
  cases h:o6 s.Cells k with
  |none=>unfold O5;rw[h];exact h0
  | some c=>
    obtain⟨h1,h2⟩:=Bp5 h;rw[←h2];exact g.last c h1
theorem Bh3 {s s':E1}{t:H2}(h:s.Floor≤s'.Floor)(ht:BP1 s t=true):BP1 s' t=true:=by
  unfold BP1 within at*
  split
  ·rename_i hy;rw[D9 hy]at ht;simp only[F0,H6]at*;omega
  ·rename_i hy;rw[D0 hy]at ht;exact ht
theorem gs_floor {s:E1}(g:GS s){t:Int}(h1:s.Floor≤t)(h2:t≤100000):GS ⟨t,s.Cells,s.Held,s.Told⟩:=by
  have h0:=g.floor.1;exact⟨⟨by dsimp only;omega,h2⟩,g.cells,fun h hm=>⟨(g.good h hm).1,by have:=(g.good h hm).2.1;dsimp only;omega,(g.good h hm).2.2⟩,g.hsort,g.apart,g.hlen,g.room,g.tlen,fun c hc=>by have:=g.last c hc;dsimp only;omega,fun u hu=>⟨(g.told u hu).1,Bh3 h1 (g.told u hu).2.1,(g.told u hu).2.2⟩,g.tsort⟩
theorem DY9 {r:N5}(h:T8 r=true)(hk:r.Kind=1):r.Yes=false:=by
  unfold T8 at h;rw[D9 hk]at h;unfold BI0 at h;simp only[F0,n5]at h;exact h.2
theorem Cq3 {r:N5}(h:T8 r=true):0≤r.Time∧r.Time≤100000:=(goodR h).time
theorem Cq4 {r:N5}(h:T8 r=true)(hk:r.Kind=1):AW5 (hOf r)=r:=by
  have:=DY9 h hk;unfold AW5 hOf
  cases r;simp_all
theorem hWs_ins {h:E0}{l:List E0}{w:B1}:w∈hWs (Ac2 h l)↔w∈hWs l++h.Writes:=by
  rw[BD5,y6,BD5];constructor
  · rintro ⟨x,hx,hw⟩
    rcases An4.1 hx with rfl|hx
    ·exact Or.inr hw
    ·exact Or.inl ⟨x,hx,hw⟩
  · rintro (⟨x,hx,hw⟩|hw)
    ·exact⟨x,An4.2 (Or.inr hx),hw⟩
    ·exact⟨h,An4.2 (Or.inl rfl),hw⟩
theorem fits_iff {s:E1}{rs:List Str}{ws:List B1}:fits s rs ws=true↔(∀h∈s.Held,apart h rs ws=true)∧s.Held.length<12∧room s.Cells (hWs s.Held++ws)=true:=by
  unfold fits;simp only[F0,V7,H6]
theorem DP4 {s:E1}(g:GS s){r:N5}(hr:T8 r=true)(hk:r.Kind=1)(hh:AO2 s.Held r.Txn=false)(hT:AU2 s.Told r.Txn=false)(ht:s.Floor<r.Time)(hf:fits s r.Reads r.Writes=true):
    GS ⟨r.Time,s.Cells,Ac2 (hOf r) s.Held,s.Told⟩:=by
  obtain⟨f1,f2,f3⟩:=fits_iff.1 hf;have htm:=Cq3 hr;have hnh:=Ab7.1 hh;have hnt:=Bh2.1 hT;refine⟨⟨htm.1,htm.2⟩,g.cells,fun h hm=> ?_,Bp3 g.hsort hnh,?_,?_,?_,g.tlen,fun c hc=> ?_,fun t hm=>⟨(g.told t hm).1,Bh3 (by dsimp only;omega) (g.told t hm).2.1,?_⟩,g.tsort⟩
  · rcases An4.1 hm with rfl|hm
    · refine⟨by rw[Cq4 hr hk];exact hr,Int.le_refl _,fun w hw=> ?_⟩
      have:=DK1 g w.Key;show O5 s.Cells w.Key<r.Time
      omega
    · obtain⟨g1,g2,g3⟩:=g.good h hm
      exact⟨g1,by dsimp only;omega,g3⟩
  ·refine((BJ2 (hOf r) s.Held).pairwise_iff (fun {x y} hxy=>Bo9 hxy)).2 (AD9.2 ⟨fun y hy=>Bo9 (f1 y hy),g.apart⟩)
  ·rw[(BJ2 _ _).length_eq,J7];omega
  ·rw[Ca3 fun w=>hWs_ins];exact f3
  ·have:=g.last c hc;dsimp only;omega
  · refine Ab7.2 fun h hm e=> ?_
    rcases An4.1 hm with rfl|hm
    ·exact hnt t ‹_› e.symm
    ·exact Ab7.1 (g.told t ‹_›).2.2 h hm e
theorem CI5 {s:E1} (g:GS s) {n fl:Int} {q:List B8} {t:H2} (hn:t.Txn=n) (hx:AS7 n=true) (hT:AU2 s.Told n=false) (hfl:s.Floor≤fl∧fl≤100000) (hq:o1 q=true) (hlast:∀c∈q,O5 q c.Key≤fl)
    (hkeep:∀k∈AC2 s.Held n,∀w∈k.Writes,o6 q w.Key=o6 s.Cells w.Key) (hkeys:∀k∈AA8 q,k∈AA8 s.Cells∨k∈O8 (hWs s.Held)) (htf:(if t.Yes=true then within t.Time 1 fl else t.Time==0)=true):GS ⟨fl,q,AC2 s.Held n,AY1 t s.Told⟩:=by
  have h0:=g.floor.1;have hnt:=Bh2.1 hT;have hsub:(AC2 s.Held n).Sublist s.Held:=List.filter_sublist;have htl:∀u∈AY1 t s.Told,AS7 u.Txn=true∧BP1 ⟨fl,q,AC2 s.Held n,AY1 t s.Told⟩ u=true∧AO2 (AC2 s.Held n) u.Txn=false:=fun u hu=>by
    rcases Cq2.1 hu with rfl|hu
    ·exact⟨hn▸hx,htf,Ab7.2 fun h hm e=>(Ag0.1 hm).2 (e.trans hn)⟩
    · obtain⟨a,b,c⟩:=g.told u hu
      exact⟨a,Bh3 hfl.1 b,Ab7.2 fun h hm e=>Ab7.1 c h (Ag0.1 hm).1 e⟩
  have hts:=Bp4 (h:=t) g.tsort fun u hu=>by rw[hn];exact hnt u hu
  refine⟨⟨by dsimp only;omega,hfl.2⟩,hq,fun h hm=> ?_,g.hsort.sublist hsub,g.apart.sublist hsub,L7 hsub.length_le g.hlen,?_,?_,hlast,htl,hts⟩
  · obtain⟨g1,g2,g3⟩:=g.good h (Ag0.1 hm).1
    exact⟨g1,by dsimp only;omega,fun w hw=>by rw[show O5 q w.Key=_ from Ba8 (hkeep h hm w hw)];exact g3 w hw⟩
  · have hr:=g.room
    unfold room at hr⊢;simp only[F0,V7,H6]at hr⊢;refine⟨fun w hw=> ?_,L7 (Bp0 fun k hk=> ?_) hr.2⟩
    · obtain⟨h,hm,hwh⟩:=BD5.1 hw
      rw[DB7 (hkeep h hm w hwh)];exact hr.1 w (BD5.2 ⟨h,(Ag0.1 hm).1,hwh⟩)
    · rcases hk with hk|hk
      ·exact hkeys k hk
      · refine Or.inr ?_
        unfold O8 at hk⊢;obtain⟨w,hw,e⟩:=n6.1 hk;obtain⟨h,hm,hwh⟩:=BD5.1 hw;exact n6.2 ⟨w,BD5.2 ⟨h,(Ag0.1 hm).1,hwh⟩,e⟩
  · have:=CI4 (a:=0) hts fun u hu=>by have:=DP3.1 (htl u hu).1;omega
    exact this
theorem put_keys {l q:List B8}{w:List B1}{t:Int}(hw:(w.map B1.Key).Nodup)(hl:adj u7 l=true)(hq:adj u7 q=true)(h:m8 l w t=some q):∀k∈AA8 q,k∈AA8 l∨k∈O8 w:=fun k hk=>by
  obtain⟨h1,h2⟩:=Bg9 hw hl h;by_cases hm:k∈w.map B1.Key
  ·exact Or.inr hm
  · left
    unfold AA8 at hk;obtain⟨c,hc,e⟩:=n6.1 hk;obtain⟨i,hi⟩:=i5 hc;have h3:=Cp8 hq hi;rw[e,h2 k hm]at h3;obtain⟨h4,h5⟩:=Bp5 h3;exact n6.2 ⟨c,h4,e⟩
theorem put_last {l q:List B8}{w:List B1}{t:Int}(hw:(w.map B1.Key).Nodup)(hl:adj u7 l=true)(h:m8 l w t=some q)(k:Str):O5 q k=t∨O5 q k=O5 l k:=by
  obtain⟨h1,h2⟩:=Bg9 hw hl h;by_cases hm:k∈w.map B1.Key
  · obtain⟨x,hx,e⟩:=n6.1 hm
    have:=h1 x hx;rw[e]at this;left;unfold O5 Cm2;rw[this];simp
  ·right;exact Ba8 (h2 k hm)
theorem Ap3 {l:List E0}{n:Int}{h:E0}(e:AE1 l n=some h):h∈l∧h.Txn=n:=by
  unfold AE1 at e;exact⟨Ac4 e,by simpa using List.find?_some e⟩
theorem BN5 {l:List E0}{n:Int}:AE1 l n=none↔AO2 l n=false:=by
  unfold AE1 AO2;rw[List.find?_eq_none,List.any_eq_false]
theorem DB8 {s:E1}(g:GS s){h:E0}(hm:h∈s.Held):AI3 h.Writes=true:=by
  have:=(g.good h hm).1;unfold T8 AW5 at this;rw[D9 rfl]at this;unfold BI0 at this;simp only[F0]at this;exact this.1.1.2
theorem DP5 {s:E1}(g:GS s){h k:E0}(hh:h∈s.Held)(hk:k∈s.Held)(hne:k.Txn≠h.Txn):apart k h.Reads h.Writes=true:=by
  obtain⟨i,hi⟩:=i5 hh;obtain⟨j,hj⟩:=i5 hk;obtain⟨i1,i2⟩:=G1.1 hi;obtain⟨j1,j2⟩:=G1.1 hj;have hp:=List.pairwise_iff_getElem.1 g.apart;rcases Nat.lt_trichotomy i j with h1|h1|h1
  · have:=hp i j i1 j1 h1
    rw[i2,j2]at this;exact Bo9 this
  ·subst h1;rw[hi]at hj;injection hj with hj;exact(hne (by rw[hj])).elim
  · have:=hp j i j1 i1 h1
    rw[i2,j2]at this;exact this
theorem gs_yes {s:E1}(g:GS s){h:E0}(hm:h∈s.Held){t:Int}(hx:AS7 h.Txn=true)(hT:AU2 s.Told h.Txn=false)(ht:h.Time≤t∧t≤100000){q:List B8}(hp:m8 s.Cells h.Writes t=some q)(hq:o1 q=true):
    GS ⟨if s.Floor<t then t else s.Floor,q,AC2 s.Held h.Txn,AY1 ⟨h.Txn,true,t⟩ s.Told⟩:=by
  have hw:=Cq1 (DB8 g hm);have ha:=(AF3 g.cells).2.1;have hqa:=(AF3 hq).2.1;have h0:=g.floor;have ht1:1≤h.Time:=by
    have:=(g.good h hm).1;unfold T8 AW5 at this;rw[D9 rfl]at this;unfold BI0 Aa2 within at this
    simp only[F0,H6]at this;omega
  refine CI5 g rfl hx hT (by split<;>omega) hq (fun c hc=> ?_) (fun k hk w hwk=> ?_) (fun k hk=> ?_) ?_
  · rcases put_last hw ha hp c.Key with e|e
    ·rw[e];split<;>omega
    ·rw[e];have:=DK1 g c.Key;split<;>omega
  · obtain⟨k1,k2⟩:=Ag0.1 hk
    refine(Bg9 hw ha hp).2 _ fun hmem=> ?_;obtain⟨v,hv,e⟩:=n6.1 hmem;exact((BJ1.1 (DP5 g hm k1 k2)).2 v hv).1 w hwk e.symm
  · rcases put_keys hw ha hqa hp k hk with e|e
    ·exact Or.inl e
    · refine Or.inr ?_
      unfold O8 at e⊢;obtain⟨w,hw2,e⟩:=n6.1 e;exact n6.2 ⟨w,BD5.2 ⟨h,hm,hw2⟩,e⟩
  ·rw[D9 rfl];unfold within;simp only[F0,H6];split<;>omega
theorem good2_of {r:N5}(h:T8 r=true)(h4:r.Kind≠4)(h1:r.Kind≠1):Bw9 r=true:=by
  unfold T8 at h;rw[D0 h1]at h;split at h
  ·exact h
  ·cases h
theorem Bw2 {l:List B8}{w:List B1}{t:Int}(h:(AL8 l w t).2=true):m8 l w t=some (AL8 l w t).1∧o1 (AL8 l w t).1=true:=by
  unfold AL8 at h⊢
  cases hp:m8 l w t with
  |none=>rw[hp]at h;cases h
  |some q=>rw[hp]at h;dsimp only at h⊢;exact⟨rfl,by rw[AJ5];exact h⟩
theorem gs_apply {s:E1} (g:GS s) {r:N5} (hr:T8 r=true) (h:(Y2 s r).2=true):GS (Y2 s r).1:=by
  have htm:=Cq3 hr;unfold Y2 at h⊢;by_cases h4:r.Kind=4
  · rw[D9 h4]at h⊢
    exact gs_floor g (by have:=AB7 h;omega) htm.2
  · rw[D0 h4]at h⊢
    by_cases hT:AU2 s.Told r.Txn=true
    ·rw[D9 hT]at h;cases h
    · rw[D0 hT]at h⊢
      rw[Bool.not_eq_true]at hT;by_cases h1:r.Kind=1
      · rw[D9 h1]at h⊢
        simp only[F0,n5,H6]at h;exact DP4 g hr h1 h.1.1 hT h.1.2 h.2
      · rw[D0 h1]at h⊢
        have h2:=good2_of hr h4 h1;unfold Bw9 at h2;simp only[F0,AC0,n5,m6]at h2;obtain⟨⟨_,hx⟩,h3⟩:=h2;by_cases hy:r.Yes=true
        · rw[D9 hy]at h⊢
          cases hf:AE1 s.Held r.Txn with
          |none=>rw[hf]at h;cases h
          | some k=>
            rw[hf]at h;dsimp only at h⊢;by_cases hlt:r.Time<k.Time
            ·rw[D9 hlt]at h;cases h
            · rw[D0 hlt]at h⊢
              by_cases hp:(AL8 s.Cells k.Writes r.Time).2=true
              · rw[D9 hp]
                obtain⟨p1,p2⟩:=Bw2 hp;obtain⟨k1,k2⟩:=Ap3 hf;have:=gs_yes g k1 (t:=r.Time) (by rw[k2];exact hx) (by rw[k2];exact hT) ⟨by omega,htm.2⟩ p1 p2;rw[k2]at this;unfold AQ2;rw[hy];exact this
              ·rw[D0 hp]at h;cases h
        · rw[D0 hy]
          rw[Bool.not_eq_true]at hy;rw[hy]at h3;simp only[Bool.false_eq_true,false_and,true_and,false_or]at h3;have h0:=g.floor;unfold AQ2;refine CI5 g rfl hx hT ⟨Int.le_refl _,h0.2⟩ g.cells g.last (fun _ _ _ _=>rfl) (fun k hk=>Or.inl hk) ?_;rw[hy,h3];rfl
theorem BQ2 :GS V0 where
  floor:=by decide
  cells:=by decide
  good:=fun h hm=>by cases hm
  hsort:=List.Pairwise.nil
  apart:=List.Pairwise.nil
  hlen:=by decide
  room:=by
    unfold room As1;rw[F0];refine⟨rfl,W6 ?_⟩;exact L7 (Af9 _) E5
  tlen:=by decide
  last:=fun c hc=>by cases hc
  told:=fun t ht=>by cases ht
  tsort:=List.Pairwise.nil
theorem gs_step {s:E1}(g:GS s){r:N5}(hr:T8 r=true):GS (AK9 s r):=by
  unfold AK9;split
  ·exact gs_apply g hr ‹_›
  ·exact g
theorem CS6 :∀{l:List N5} {s:E1},GS s→(∀r∈l,T8 r=true)→GS (Z2 s l)
  |[],s,g,_=>g
  | r::l,s,g,h=>by
    show GS (Z2 (AK9 s r) l)
    exact CS6 (gs_step g (h r n4)) fun x hx=>h x (U5 _ hx)
def settled (s:E1):Int:=s.Held.foldl (fun o h=>min o (h.Time-1)) s.Floor
structure Keeps (s s':E1):Prop where
  floor:s.Floor≤s'.Floor
  told:∀t∈s.Told,t∈s'.Told
  tlen:s.Told.length≤s'.Told.length
  settled:settled s≤settled s'
  cells:∀a,a≤M.settled s→DM9 s'.Cells a=DM9 s.Cells a
theorem DZ0 {l:List H2}(h:l.Pairwise fun a b=>a.Txn<b.Txn){a b:H2}(ha:a∈l)(hb:b∈l)(e:a.Txn=b.Txn):a=b:=by
  obtain⟨i,hi⟩:=i5 ha;obtain⟨j,hj⟩:=i5 hb;obtain⟨i1,i2⟩:=G1.1 hi;obtain⟨j1,j2⟩:=G1.1 hj;have hp:=List.pairwise_iff_getElem.1 h;rcases Nat.lt_trichotomy i j with h1|h1|h1
  ·have:=hp i j i1 j1 h1;rw[i2,j2]at this;omega
  ·subst h1;rw[hi]at hj;injection hj
  ·have:=hp j i j1 i1 h1;rw[i2,j2]at this;omega
theorem DZ1 {l:List H2}(h:l.Pairwise fun a b=>a.Txn<b.Txn){t:H2}(ht:t∈l):AD3 l t.Txn=some t:=by
  unfold AD3
  cases e:l.find? fun x=>x.Txn==t.Txn with
  |none=>rw[List.find?_eq_none]at e;have:=e t ht;simp at this
  |some u=>rw[DZ0 h (Ac4 e) ht (by simpa using List.find?_some e)]
def AI5 :List Str:=[[97],[98],[99],[109],[110],[122],[114,47,49],[105,47,120,47,49]]
def valD :List Str:=[[],[49],[55],[49,48],[45,51],[120],[97,44,98,95,99]]
def keyS :List Str:=[[97],[98],[99],[105,47,120,47,49],[109],[110],[114,47,49],[122]]
theorem AL9 {k:Str}(h:k∈AI5):z7 k=true∧k.length≤5:=by
  have:∀k∈AI5,z7 k=true∧k.length≤5:=by decide
  exact this k h
def Aa4 (t:Int):Int→List F4→Bool
  |_,[]=>true
  |p,e::l=>(within e.Term p t&&T8 e.Rec)&&Aa4 t e.Term l
def AG2 (r:D8)(t:Int):Bool:=(decide ((r.Log.length:Int)≤60)&&within r.Sure 0 r.Log.length)&&Aa4 t 1 r.Log
def AS8 (n:Int):Bool:=n==3||n==5
def Al0 (g:C1)(r:Int):Bool:=within r 0 ((g.Reps.length:Int)-1)
def M3 (g:C1)(r:Int):D8:=(g.Reps[r.toNat]?).getD ⟨false,[],0⟩
def P0 (g:C1):Bool:=((AS8 g.Reps.length&&within g.Term 0 200)&&(g.Lead== -1||(Al0 g g.Lead&&(M3 g g.Lead).Up)))&&g.Reps.all fun r=>AG2 r g.Term
def AH4 :C1:=⟨[],0,0⟩
structure GR (r:D8)(t:Int):Prop where
  len:r.Log.length≤60
  sure:0≤r.Sure∧r.Sure≤r.Log.length
  ents:∀e∈r.Log,1≤e.Term∧e.Term≤t∧T8 e.Rec=true
  sorted:r.Log.Pairwise fun a b=>a.Term≤b.Term
structure GG (g:C1):Prop where
  many:g.Reps.length=3∨g.Reps.length=5
  term:0≤g.Term∧g.Term≤200
  lead:g.Lead= -1∨(0≤g.Lead∧g.Lead<g.Reps.length∧(M3 g g.Lead).Up=true)
  reps:∀r∈g.Reps,GR r g.Term
theorem Ca6 {t:Int}:∀{l:List F4} {p:Int},Aa4 t p l=true↔(∀e∈l,p≤e.Term∧e.Term≤t∧T8 e.Rec=true)∧l.Pairwise fun a b=>a.Term≤b.Term
  |[],p=>by simp[Aa4]
  | e ::l,p=>by
    unfold Aa4 within
    rw[F0,F0,F0,H6,H6,Ca6,AD9];constructor
    · rintro ⟨⟨⟨h1,h2⟩,h3⟩,h4,h5⟩
      refine⟨fun x hx=> ?_,fun x hx=>(h4 x hx).1,h5⟩;rcases T6.1 hx with rfl|hx
      ·exact⟨h1,h2,h3⟩
      ·have:=h4 x hx;exact⟨by omega,this.2⟩
    · rintro ⟨h1,h2,h3⟩
      have h0:=h1 e n4;exact⟨⟨⟨h0.1,h0.2.1⟩,h0.2.2⟩,fun x hx=>⟨h2 x hx,(h1 x (U5 _ hx)).2⟩,h3⟩
theorem DB9 {r:D8}{t:Int}:AG2 r t=true↔GR r t:=by
  unfold AG2 within
  simp only[F0,H6,Ca6];constructor
  ·rintro ⟨⟨h1,h2,h3⟩,h4,h5⟩;exact⟨by omega,⟨h2,h3⟩,h4,h5⟩
  ·rintro ⟨h1,⟨h2,h3⟩,h4,h5⟩;exact⟨⟨by omega,h2,h3⟩,h4,h5⟩
theorem AN9 {g:C1}{r:Int}:Al0 g r=true↔0≤r∧r<g.Reps.length:=by
  unfold Al0 within;simp only[F0,H6];omega
theorem o9 {g:C1}:P0 g=true↔GG g:=by
  unfold P0 AS8 within
  simp only[F0,AC0,H6,m6,V7,DB9,AN9];constructor
  · rintro ⟨⟨⟨h1,h2⟩,h3⟩,h4⟩
    refine⟨by omega,h2,?_,h4⟩;rcases h3 with h|⟨⟨h,k⟩,l⟩
    ·exact .inl h
    ·exact .inr ⟨h,k,l⟩
  · rintro ⟨h1,h2,h3,h4⟩
    refine⟨⟨⟨by omega,h2⟩,?_⟩,h4⟩;rcases h3 with h|⟨h,k,l⟩
    ·exact .inl h
    ·exact .inr ⟨⟨h,k⟩,l⟩
theorem Z3 {g:C1}{r:Int}(h:0≤r∧r<g.Reps.length):g.Reps[r.toNat]? =some (M3 g r):=by
  unfold M3;rw[Q5 (show r.toNat<g.Reps.length by omega)];rfl
theorem repAt_of {g:C1}{r:Int}{x:D8}(h:g.Reps[r.toNat]? =some x):M3 g r=x:=by unfold M3;rw[h];rfl
theorem AE6 {g:C1}{r:Int}(h:0≤r∧r<g.Reps.length):M3 g r∈g.Reps:=C3 (Z3 h)
def AW7 (g:C1)(r:Int)(x:D8):C1:=⟨g.Reps.set r.toNat x,g.Term,g.Lead⟩
def Ao5 (g:C1)(r:Int)(up:Bool):Bool:=(P0 g&&Al0 g r)&&((M3 g r).Up==up)
def AD4 (g:C1)(r:Int):C1×Bool:=
  if Ao5 g r true=true then (⟨g.Reps.set r.toNat ⟨false,(M3 g r).Log,(M3 g r).Sure⟩,g.Term,if g.Lead=r then -1 else g.Lead⟩,true)else (AH4,false)
def AF6 (g:C1)(r:Int):C1×Bool:=
  if Ao5 g r false=true then (⟨g.Reps.set r.toNat ⟨true,(M3 g r).Log,(M3 g r).Sure⟩,g.Term,g.Lead⟩,true)else (AH4,false)
def AW8 (l:List F4):Int:=match l.getLast? with|some e=>e.Term|none=>0
def Ae9 (a b:List F4):Bool:=decide (AW8 b<AW8 a)||(AW8 a==AW8 b&&decide (b.length<a.length))
def BK1 (g:C1)(p:D8→Bool):Bool:=decide ((g.Reps.length:Int)<2*((g.Reps.filter p).length:Int))
def V8 (g:C1)(r:Int):C1×Bool:=
  if (Ao5 g r true&& !(g.Term==200))=true∧BK1 g (fun x=>x.Up&& !Ae9 x.Log (M3 g r).Log)=true then (⟨g.Reps,g.Term+1,r⟩,true)else (AH4,false)
def AS2 (g:C1):Bool:=P0 g&&decide (0≤g.Lead)
def AE2 (g:C1)(r:N5):C1×Bool:=
  if (AS2 g&&T8 r)=true∧(M3 g g.Lead).Log.length<60 then (AW7 g g.Lead ⟨(M3 g g.Lead).Up,(M3 g g.Lead).Log++[⟨g.Term,r⟩],(M3 g g.Lead).Sure⟩,true)else (AH4,false)
def AA1 (g:C1)(r:Int):C1×Bool:=
  if (Ao5 g r true&&decide (0≤g.Lead))=true∧g.Lead≠r then (AW7 g r ⟨true,(M3 g g.Lead).Log,min ((M3 g g.Lead).Log.length:Int) (max (M3 g r).Sure (M3 g g.Lead).Sure)⟩,true)else (AH4,false)
def AC4 (a b:List F4)(n:Nat):Bool:=decide (n≤a.length∧n≤b.length∧a.take n=b.take n)
def AQ3 (g:C1)(n:Nat):Bool:=decide ((((M3 g g.Lead).Log[n-1]?).map F4.Term)=some g.Term)&&BK1 g fun x=>AC4 x.Log (M3 g g.Lead).Log n
def y8 (p:Nat→Bool)(lo:Nat):Nat→Option Nat
  |0=>none
  |n+1=>if n+1≤lo then none else if p (n+1)=true then some (n+1)else y8 p lo n
def AK4 (g:C1):C1×Bool:=
  if AS2 g=true then (match y8 (AQ3 g) (M3 g g.Lead).Sure.toNat (M3 g g.Lead).Log.length with
    |some n=>(AW7 g g.Lead ⟨(M3 g g.Lead).Up,(M3 g g.Lead).Log,(n:Int)⟩,true)
    |none=>(g,true))else (AH4,false)
theorem Bk7 {p:Nat→Bool}{lo:Nat}:∀{k n:Nat},y8 p lo k=some n→lo<n∧n≤k∧p n=true
  |0,n,h=>by cases h
  | k +1,n,h=>by
    unfold y8 at h;split at h
    ·cases h
    · split at h
      ·injection h with h;subst h;exact⟨by omega,K9 _,‹_›⟩
      ·have:=Bk7 h;exact⟨this.1,by omega,this.2.2⟩
theorem AV9 {g:C1}{r:Int}{up:Bool}:Ao5 g r up=true↔GG g∧(0≤r∧r<g.Reps.length)∧(M3 g r).Up=up:=by
  unfold Ao5;rw[F0,F0,o9,AN9,m6];constructor
  ·rintro ⟨⟨a,b⟩,c⟩;exact⟨a,b,c⟩
  ·rintro ⟨a,b,c⟩;exact⟨⟨a,b⟩,c⟩
theorem Ab8 {g:C1}:AS2 g=true↔GG g∧0≤g.Lead∧g.Lead<g.Reps.length∧(M3 g g.Lead).Up=true:=by
  unfold AS2;rw[F0,o9,H6];constructor
  · rintro ⟨a,b⟩
    rcases a.lead with h|⟨h1,h2,h3⟩
    ·omega
    ·exact⟨a,h1,h2,h3⟩
  ·rintro ⟨a,b,_⟩;exact⟨a,b⟩
theorem CS7 {g:C1}{r:Int}{x:D8}{t l:Int}(h:0≤r∧r<g.Reps.length):M3 ⟨g.Reps.set r.toNat x,t,l⟩ r=x:=by
  unfold M3;dsimp only;rw[Ac3 qz7];rfl
theorem BR8 {g:C1}{r q:Int}{x:D8}{t l:Int}(hr:0≤r)(hq:0≤q)(h:q≠r):M3 ⟨g.Reps.set r.toNat x,t,l⟩ q=M3 g q:=by
  unfold M3;dsimp only;rw[Ak5 qz7]
theorem gr_mono {r:D8}{t u:Int}(h:GR r t)(k:t≤u):GR r u:=⟨h.len,h.sure,fun e he=>by have:=h.ents e he;exact⟨this.1,by omega,this.2.2⟩,h.sorted⟩
theorem CC9 {g:C1}(h:GG g){r:Int}{x:D8}(hx:GR x g.Term):∀y∈g.Reps.set r.toNat x,GR y g.Term:=fun y hy=>by
  rcases List.mem_or_eq_of_mem_set hy with hy|rfl
  ·exact h.reps y hy
  ·exact hx
theorem DP6 {g:C1} {r:Int} (h:(AD4 g r).2=true):GG (AD4 g r).1∧(AD4 g r).1.Reps.length=g.Reps.length:=by
  unfold AD4 at h⊢;by_cases hc:Ao5 g r true=true
  · rw[D9 hc]at h⊢
    obtain⟨gg,hr,hu⟩:=AV9.1 hc;have hg:=gg.reps _ (AE6 hr);refine⟨⟨?_,gg.term,?_,CC9 gg ⟨hg.len,hg.sure,hg.ents,hg.sorted⟩⟩,a9 ..⟩
    · show (g.Reps.set _ _).length=3∨(g.Reps.set _ _).length=5
      rw[a9];exact gg.many
    · dsimp only
      by_cases hl:g.Lead=r
      ·rw[D9 hl];exact .inl rfl
      · rw[D0 hl]
        rcases gg.lead with e|⟨a,b,c⟩
        ·exact .inl e
        · refine .inr ⟨a,by rw[a9];exact b,?_⟩
          have:=BR8 (g:=g) (x:=⟨false,(M3 g r).Log,(M3 g r).Sure⟩) (t:=g.Term) (l:=g.Lead) hr.1 a hl;rw[this];exact c
  ·rw[D0 hc]at h;cases h
theorem DP7 {g:C1} {r:Int} (h:(AF6 g r).2=true):GG (AF6 g r).1∧(AF6 g r).1.Reps.length=g.Reps.length:=by
  unfold AF6 at h⊢;by_cases hc:Ao5 g r false=true
  · rw[D9 hc]at h⊢
    obtain⟨gg,hr,hu⟩:=AV9.1 hc;have hg:=gg.reps _ (AE6 hr);refine⟨⟨?_,gg.term,?_,CC9 gg ⟨hg.len,hg.sure,hg.ents,hg.sorted⟩⟩,a9 ..⟩
    · show (g.Reps.set _ _).length=3∨(g.Reps.set _ _).length=5
      rw[a9];exact gg.many
    · dsimp only
      rcases gg.lead with e|⟨a,b,c⟩
      ·exact .inl e
      · refine .inr ⟨a,by rw[a9];exact b,?_⟩
        by_cases hl:g.Lead=r
        ·rw[hl]at c;rw[hu]at c;cases c
        · have:=BR8 (g:=g) (x:=⟨true,(M3 g r).Log,(M3 g r).Sure⟩) (t:=g.Term) (l:=g.Lead) hr.1 a hl
          rw[this];exact c
  ·rw[D0 hc]at h;cases h
theorem CI6 {g:C1}{r:Int}(h:(V8 g r).2=true):GG (V8 g r).1∧(V8 g r).1.Reps.length=g.Reps.length∧(V8 g r).1.Lead=r∧0≤r∧r<g.Reps.length:=by
  unfold V8 at h⊢;split at h
  · rename_i hc
    rw[D9 hc];rw[F0,n5,beq_eq_false_iff_ne]at hc;obtain⟨gg,hr,hu⟩:=AV9.1 hc.1.1;have ht:=gg.term;exact⟨⟨gg.many,by dsimp only;omega,.inr ⟨hr.1,hr.2,hu⟩,fun y hy=>gr_mono (gg.reps y hy) (by dsimp only;omega)⟩,rfl,rfl,hr.1,hr.2⟩
  ·cases h
theorem BY8 {g:C1} (gg:GG g) {r:Int} (hr:0≤r∧r<g.Reps.length) {x:D8} (hx:GR x g.Term) (hu:x.Up=(M3 g r).Up):GG (AW7 g r x):=by
  refine⟨?_,gg.term,?_,CC9 gg hx⟩
  · show (g.Reps.set _ _).length=3∨(g.Reps.set _ _).length=5
    rw[a9];exact gg.many
  · show g.Lead= -1∨(0≤g.Lead∧g.Lead<((g.Reps.set r.toNat x).length:Int)∧(M3 ⟨g.Reps.set r.toNat x,g.Term,g.Lead⟩ g.Lead).Up=true)
    rcases gg.lead with e|⟨a,b,c⟩
    ·exact .inl e
    · refine .inr ⟨a,by rw[a9];exact b,?_⟩
      by_cases hl:g.Lead=r
      · have:=CS7 (g:=g) (x:=x) (t:=g.Term) (l:=g.Lead) hr
        rw[hl]at c this⊢;rw[this,hu];exact c
      · have:=BR8 (g:=g) (x:=x) (t:=g.Term) (l:=g.Lead) hr.1 a hl
        rw[this];exact c
theorem Bh4 (g:C1)(r:Int)(x:D8):(AW7 g r x).Reps.length=g.Reps.length:=a9 ..
theorem DZ2 {g:C1} {r:N5} (ht:1≤g.Term) (h:(AE2 g r).2=true):GG (AE2 g r).1∧(AE2 g r).1.Reps.length=g.Reps.length∧(AE2 g r).1.Lead=g.Lead:=by
  unfold AE2 at h⊢;split at h
  · rename_i hc
    rw[D9 hc];rw[F0]at hc;obtain⟨gg,h1,h2,h3⟩:=Ab8.1 hc.1.1;have hg:=gg.reps _ (AE6 ⟨h1,h2⟩);refine⟨BY8 gg ⟨h1,h2⟩ ⟨?_,?_,fun e he=> ?_,?_⟩ rfl,Bh4 ..,rfl⟩
    ·rw[I2];have:=hc.2;simp;omega
    ·have:=hg.sure;rw[I2];simp;omega
    · rcases y6.1 he with he|he
      ·exact hg.ents e he
      · rw[i6.1 he]
        exact⟨ht,Int.le_refl _,hc.1.2⟩
    · rw[List.pairwise_append]
      exact⟨hg.sorted,List.pairwise_singleton _ _,fun a ha b hb=>by rw[i6.1 hb];exact(hg.ents a ha).2.1⟩
  ·cases h
theorem DZ3 {g:C1}{r:Int}(h:(AA1 g r).2=true):GG (AA1 g r).1∧(AA1 g r).1.Reps.length=g.Reps.length∧(AA1 g r).1.Lead=g.Lead:=by
  unfold AA1 at h⊢;split at h
  · rename_i hc
    rw[D9 hc];rw[F0,H6]at hc;obtain⟨gg,hr,hu⟩:=AV9.1 hc.1.1;have hl:0≤g.Lead∧g.Lead<g.Reps.length:=by rcases gg.lead with e|⟨a,b,_⟩;omega;exact⟨a,b⟩
    have hg:=gg.reps _ (AE6 hl);have hq:=gg.reps _ (AE6 hr);refine⟨BY8 gg hr ⟨hg.len,?_,hg.ents,hg.sorted⟩ hu.symm,Bh4 ..,rfl⟩;have h1:=hg.sure;have h2:=hq.sure;dsimp only;omega
  ·cases h
theorem adv_good {g:C1}(h:(AK4 g).2=true):GG (AK4 g).1∧(AK4 g).1.Reps.length=g.Reps.length∧(AK4 g).1.Lead=g.Lead:=by
  unfold AK4 at h⊢;split at h
  · rename_i hc
    rw[D9 hc];obtain⟨gg,h1,h2,h3⟩:=Ab8.1 hc;have hg:=gg.reps _ (AE6 ⟨h1,h2⟩);split
    · rename_i n hn
      have:=Bk7 hn;exact⟨BY8 gg ⟨h1,h2⟩ ⟨hg.len,⟨by dsimp only;omega,by dsimp only;omega⟩,hg.ents,hg.sorted⟩ rfl,Bh4 ..,rfl⟩
    ·exact⟨gg,rfl,rfl⟩
  ·cases h
theorem Bh5 {g:C1}{r:Int}:((AD4 g r).2=true→(AD4 g r).1.Term=g.Term)∧((AF6 g r).2=true→(AF6 g r).1.Term=g.Term)∧((V8 g r).2=true→(V8 g r).1.Term=g.Term+1)∧((AA1 g r).2=true→(AA1 g r).1.Term=g.Term):=by
  unfold AD4 AF6 V8 AA1 AW7;refine⟨?_,?_,?_,?_⟩<;>(split<;>intro h<;>first|rfl|cases h)
theorem DZ4 {g:C1}{r:N5}(h:(AE2 g r).2=true):(AE2 g r).1.Term=g.Term:=by
  unfold AE2 AW7 at*;split<;>first|rfl|(rename_i hc;rw[D0 hc]at h;cases h)
theorem adv_term {g:C1}(h:(AK4 g).2=true):(AK4 g).1.Term=g.Term:=by
  unfold AK4 AW7 at*;split at h
  ·rw[D9 ‹_›];split<;>rfl
  ·cases h
theorem DP8 {g:C1}{r:Int}(h:(AD4 g r).2=true):(AD4 g r).1.Lead= -1∨(AD4 g r).1.Lead=g.Lead:=by
  unfold AD4 at h⊢;split at h
  ·rw[D9 ‹_›];dsimp only;split;exact .inl rfl;exact .inr rfl
  ·cases h
theorem DP9 {g:C1}{r:Int}(h:(AF6 g r).2=true):(AF6 g r).1.Lead=g.Lead:=by
  unfold AF6 at h⊢;split at h
  ·rw[D9 ‹_›]
  ·cases h
def AQ4 (P:N5→Prop)(g:C1):Prop:=∀r∈g.Reps,∀e∈r.Log,P e.Rec
theorem BJ3 {P:N5→Prop}{g:C1}(h:AQ4 P g)(r:Int):∀e∈(M3 g r).Log,P e.Rec:=by
  intro e he;unfold M3 at he
  cases hx:g.Reps[r.toNat]? with
  |none=>rw[hx]at he;cases he
  |some x=>rw[hx]at he;exact h x (C3 hx) e he
theorem Ba9 {P:N5→Prop}{g:C1}(h:AQ4 P g){r:Int}{x:D8}(hx:∀e∈x.Log,P e.Rec){t l:Int}:AQ4 P ⟨g.Reps.set r.toNat x,t,l⟩:=by
  intro y hy;rcases List.mem_or_eq_of_mem_set hy with hy|rfl
  ·exact h y hy
  ·exact hx
theorem Ap4 {P:N5→Prop}:AQ4 P AH4:=fun r hr=>by cases hr
theorem DZ5 {P:N5→Prop}{g:C1}{r:Int}(h:AQ4 P g):AQ4 P (AD4 g r).1:=by
  unfold AD4;split
  ·refine Ba9 h ?_;exact BJ3 h r
  ·exact Ap4
theorem DZ6 {P:N5→Prop}{g:C1}{r:Int}(h:AQ4 P g):AQ4 P (AF6 g r).1:=by
  unfold AF6;split
  ·refine Ba9 h ?_;exact BJ3 h r
  ·exact Ap4
theorem DZ7 {P:N5→Prop}{g:C1}{r:Int}(h:AQ4 P g):AQ4 P (V8 g r).1:=by
  unfold V8;split
  ·exact h
  ·exact Ap4
theorem put_log {P:N5→Prop}{g:C1}{r:N5}(h:AQ4 P g)(hr:P r):AQ4 P (AE2 g r).1:=by
  unfold AE2;split
  · refine Ba9 h fun e he=> ?_
    rcases y6.1 he with he|he
    ·exact BJ3 h _ e he
    ·rw[i6.1 he];exact hr
  ·exact Ap4
theorem copy_log {P:N5→Prop}{g:C1}{r:Int}(h:AQ4 P g):AQ4 P (AA1 g r).1:=by
  unfold AA1;split
  ·refine Ba9 h ?_;exact BJ3 h g.Lead
  ·exact Ap4
theorem adv_log {P:N5→Prop}{g:C1}(h:AQ4 P g):AQ4 P (AK4 g).1:=by
  unfold AK4;split
  · split
    ·refine Ba9 h ?_;exact BJ3 h g.Lead
    ·exact h
  ·exact Ap4
def Ai7 (r:N5):Prop:=∀w∈r.Writes,w.Key∈AI5
structure WG (g:C1):Prop where
  good:GG g
  three:g.Reps.length=3
  led:0≤g.Lead→1≤g.Term
  keys:AQ4 Ai7 g
theorem wg_crash {g:C1}{r:Int}(w:WG g)(h:(AD4 g r).2=true):WG (AD4 g r).1:=by
  have h1:=DP6 h;refine⟨h1.1,h1.2.trans w.three,fun hl=> ?_,DZ5 w.keys⟩;have:=w.led;rw[(Bh5 (g:=g) (r:=r)).1 h];rcases DP8 h with e|e<;>rw[e]at hl
  ·omega
  ·exact this hl
theorem wg_start {g:C1}{r:Int}(w:WG g)(h:(AF6 g r).2=true):WG (AF6 g r).1:=by
  have h1:=DP7 h;refine⟨h1.1,h1.2.trans w.three,fun hl=> ?_,DZ6 w.keys⟩;rw[(Bh5 (g:=g) (r:=r)).2.1 h];rw[DP9 h]at hl;exact w.led hl
theorem wg_elect {g:C1}{r:Int}(w:WG g)(h:(V8 g r).2=true):WG (V8 g r).1:=by
  have h1:=CI6 h;refine⟨h1.1,h1.2.1.trans w.three,fun hl=> ?_,DZ7 w.keys⟩;rw[(Bh5 (g:=g) (r:=r)).2.2.1 h];have:=w.good.term;omega
theorem wg_copy {g:C1}{r:Int}(w:WG g)(h:(AA1 g r).2=true):WG (AA1 g r).1:=by
  have h1:=DZ3 h;refine⟨h1.1,h1.2.1.trans w.three,fun hl=> ?_,copy_log w.keys⟩;rw[(Bh5 (g:=g) (r:=r)).2.2.2 h];rw[h1.2.2]at hl;exact w.led hl
theorem wg_put {g:C1}{r:N5}(w:WG g)(hl:0≤g.Lead)(hk:Ai7 r)(h:(AE2 g r).2=true):WG (AE2 g r).1:=by
  have h1:=DZ2 (w.led hl) h;refine⟨h1.1,h1.2.1.trans w.three,fun _=> ?_,put_log w.keys hk⟩;rw[DZ4 h];exact w.led hl
theorem wg_adv {g:C1}(w:WG g)(h:(AK4 g).2=true):WG (AK4 g).1:=by
  have h1:=adv_good h;refine⟨h1.1,h1.2.1.trans w.three,fun hl=> ?_,adv_log w.keys⟩;rw[adv_term h];rw[h1.2.2]at hl;exact w.led hl
abbrev AF0 (n:Nat):Str:=Lib.decDigits n
abbrev AA9 (n:Int):Str:=Lib.itoa n
theorem AT5 {n:Nat}(h:n<10):AF0 n=[UInt8.ofNat (48+n)]:=Lib.decDigits_one h
theorem Ah3 {n:Nat}(h:¬n<10):AF0 n=AF0 (n / 10)++[UInt8.ofNat (48+n % 10)]:=by
  show Lib.decDigits n=_
  rw[Lib.decDigits,dif_neg h]
theorem BD6 :∀{k n:Nat},n<10 ^ k→1≤k→(AF0 n).length≤k
  |0,_,_,h=>by omega
  | k +1,n,h,_=>by
    by_cases hn:n<10
    ·rw[AT5 hn];simp
    · rw[Ah3 hn,I2]
      have:k≠0:=by rintro rfl;simp at h;omega
      have h2:=BD6 (k:=k) (n:=n / 10) (by rw[Nat.pow_succ]at h;omega) qz7;simp only[J7,T5];omega
theorem BD7 (n:Nat):AA9 n=AF0 n:=Lib.itoa_nonneg n
theorem itoa_pos {n:Int}(h:0≤n):AA9 n=AF0 n.toNat:=by
  obtain⟨m,rfl⟩:∃m:Nat,n=(m:Int):=⟨n.toNat,by omega⟩;rw[BD7];rfl
theorem u8w2 {x:Int}{m:Nat}(h:x % 256=((m % 256:Nat):Int)):IntKind.u8.wrap x=((UInt8.ofNat m).toNat:Int):=by
  have:(UInt8.ofNat m).toNat=m % 256:=by simp
  rw[this,←h];simp[IntKind.wrap,IntKind.bits,IntKind.signed]
theorem dig1 (n:Nat):IntKind.u8.wrap (48+(n:Int))=((UInt8.ofNat (48+n)).toNat:Int):=u8w2 qz7
theorem tmod10T (n:Nat):(n:Int).tmod 10=((n % 10:Nat):Int):=rfl
theorem dig2 (n:Nat):IntKind.u8.wrap (48+(n:Int).tmod 10)=((UInt8.ofNat (48+n % 10)).toNat:Int):=by
  rw[show (n:Int).tmod 10=((n % 10:Nat):Int)from rfl];exact u8w2 qz7
theorem quo10 {n:Nat}(h:n≤1000000000000):IntKind.i64.wrap ((n:Int).tdiv 10)=((n / 10:Nat):Int):=by
  rw[show (n:Int).tdiv 10=((n / 10:Nat):Int)from rfl];simp[IntKind.wrap,IntKind.bits,IntKind.signed];omega
def BI1 (b:UInt8):Bool:=decide (48≤b.toNat)&&decide (b.toNat≤57)
theorem CD0 (n:Nat):∀b∈AF0 n,48≤b.toNat∧b.toNat≤57:=by
  induction n using Nat.strongRecOn with
  | ind n ih=>
    intro b hb;by_cases h:n<10
    · rw[AT5 h]at hb
      rw[i6.1 hb];have:(UInt8.ofNat (48+n)).toNat=(48+n) % 256:=by simp
      omega
    · rw[Ah3 h]at hb
      rcases y6.1 hb with hb|hb
      ·exact ih (n / 10) qz7 b hb
      · rw[i6.1 hb]
        have:(UInt8.ofNat (48+n % 10)).toNat=(48+n % 10) % 256:=by simp
        omega
theorem DZ8 {n:Nat}(hn:0<n):∃d r,AF0 n=d::r∧d.toNat≠48:=by
  induction n using Nat.strongRecOn with
  | ind n ih=>
    by_cases h:n<10
    · refine⟨_,_,AT5 h,?_⟩
      have:(UInt8.ofNat (48+n)).toNat=(48+n) % 256:=by simp
      omega
    · obtain⟨d,r,e,hd⟩:=ih (n / 10) qz7 qz7
      exact⟨d,r++[UInt8.ofNat (48+n % 10)],by rw[Ah3 h,e];rfl,hd⟩
theorem Bw3 (n:Nat):AF0 n≠[]:=by
  by_cases h:n<10
  ·rw[AT5 h];simp
  ·rw[Ah3 h];simp
theorem DK2 {d:UInt8} (hd:48≤d.toNat∧d.toNat≤57):∀(l:Str) (acc u:Nat),Lib.parseUint10 acc l= .ok u→u<100000000000000000→Lib.parseUint10 acc (l++[d])= .ok (u*10+(d.toNat-48))
  | [],acc,u,h,hu=>by
    simp only[Lib.parseUint10]at h;injection h with h
    subst h;simp only[AI0,Lib.parseUint10];rw[D9 hd,D0 qz7,D0 qz7]
  | c ::r,acc,u,h,hu=>by
    simp only[Lib.parseUint10]at h;show Lib.parseUint10 acc (c::(r++[d]))=_
    simp only[Lib.parseUint10];split at h
    · rename_i h1
      rw[D9 h1];split at h
      ·cases h
      · rename_i h2
        rw[D0 h2];split at h
        ·cases h
        · rename_i h3
          rw[D0 h3];exact DK2 hd r _ u h hu
    ·cases h
theorem pu_dec (n:Nat):n≤1000000000000→Lib.parseUint10 0 (AF0 n)= .ok n:=by
  induction n using Nat.strongRecOn with
  | ind n ih=>
    intro hn;by_cases h:n<10
    · rw[AT5 h]
      have:(UInt8.ofNat (48+n)).toNat=48+n:=by simp;omega
      simp only[Lib.parseUint10,this];rw[D9 qz7,D0 qz7,D0 qz7];congr 1;omega
    · rw[Ah3 h]
      have h8:(UInt8.ofNat (48+n % 10)).toNat=48+n % 10:=by simp;omega
      rw[DK2 qz7 _ 0 (n / 10) (ih (n / 10) qz7 qz7) qz7,h8];congr 1;omega
theorem atoi_dec {n:Nat}(h:n≤1000000000000):Lib.atoiAll (AF0 n)= .ok (n:Int):=by
  have hp:=pu_dec n h;have hdg:=CD0 n
  cases hl:AF0 n with
  |nil=>exact absurd hl (Bw3 n)
  | cons c r=>
    rw[hl]at hp hdg;have hc:=hdg c n4;unfold Lib.atoiAll Lib.parseMag;dsimp only;rw[D0 (show ¬(c.toNat=43∨c.toNat=45) by omega),D0 X1,hp];dsimp only;rw[D0 qz7,D0 qz7,D0 qz7]
def AU3 (s:Str):Int:=match Lib.atoiAll s with| .ok v=>v| .range=>Lib.atoiSat s|_=>0
def AY6 (s:Str):Bool:=match Lib.atoiAll s with| .ok _=>false|_=>true
def AU4 (s:Str)(lo hi:Int):Int×Bool:=if ((AY6 s|| !within (AU3 s) lo hi)||(AA9 (AU3 s) !=s))=true then (0,false)else (AU3 s,true)
theorem DZ9 {n:Nat}{lo hi:Int}(h:n≤1000000000000)(hw:within n lo hi=true):AU4 (AF0 n) lo hi=((n:Int),true):=by
  have e:=atoi_dec h;have e1:AU3 (AF0 n)=n:=by unfold AU3;rw[e]
  have e2:AY6 (AF0 n)=false:=by unfold AY6;rw[e]
  unfold AU4;rw[e1,e2,hw,BD7,D0 X1]
def m1 (n:Nat):Str→Int
  |[]=>n
  |b::s=>if BI1 b=true then m1 (10*n+(b.toNat-48)) s else -1
def BK2 (s:Str):Bool:= !within s.length 1 6||((s.head?.map fun b=>b==48).getD false&&decide ((1:Int)<(s.length:Int)))
def l1R (s:Str):Int:=if BK2 s=true then -1 else m1 0 s
theorem DK3 {d:UInt8}(hd:48≤d.toNat∧d.toNat≤57):∀(s:Str) (m v:Nat),m1 m s=(v:Int)→m1 m (s++[d])=((10*v+(d.toNat-48):Nat):Int)
  | [],m,v,h=>by
    simp only[m1]at h;have:m=v:=by omega
    subst this;simp only[AI0,m1];rw[D9 (by unfold BI1;simp;omega)]
  | b ::s,m,v,h=>by
    simp only[m1]at h;show m1 m (b::(s++[d]))=_
    simp only[m1];split at h
    · rename_i h1
      rw[D9 h1];exact DK3 hd s _ v h
    ·exfalso;omega
theorem rd_dec (n:Nat):m1 0 (AF0 n)=(n:Int):=by
  induction n using Nat.strongRecOn with
  | ind n ih=>
    by_cases h:n<10
    · rw[AT5 h]
      have h8:(UInt8.ofNat (48+n)).toNat=48+n:=by simp;omega
      simp only[m1,h8];rw[D9 (by unfold BI1;rw[h8];simp;omega)];congr 1;omega
    · rw[Ah3 h]
      have h8:(UInt8.ofNat (48+n % 10)).toNat=48+n % 10:=by simp;omega
      rw[DK3 qz7 _ 0 (n / 10) (ih (n / 10) qz7),h8];congr 1;omega
theorem DK4 {n:Nat}(h:n≤999999):l1R (AF0 n)=n:=by
  have hl:=BD6 (k:=6) (n:=n) qz7 E5;have hne:=Bw3 n;have hpos:1≤(AF0 n).length:=by
    cases hd:AF0 n with
    |nil=>exact absurd hd hne
    |cons b r=>simp
  unfold l1R;rw[D0,rd_dec];unfold BK2 within
  simp only[AC0,n5,F0,not_or,not_and];refine⟨by simp;omega,fun hh hlt=> ?_⟩;by_cases hz:n=0
  · subst hz
    have:(AF0 0).length=1:=by rw[AT5 E5];rfl
    simp at hlt;omega
  · obtain⟨d,r,e,hd⟩:=DZ8 (n:=n) qz7
    rw[e]at hh;simp at hh;rw[hh]at hd;exact hd rfl
theorem dec_no {n:Nat}{c:UInt8}(h:c.toNat<48∨57<c.toNat):c∉AF0 n:=fun hm=>by
  have:=CD0 n c hm;omega
structure GoodC (c:AH3):Prop where
  time:∃t:Nat,c.Time=(t:Int)∧1≤t∧t≤100000
  group:∃g:Nat,c.Group=(g:Int)∧g≤3
  key:1≤c.Key.length∧(32:UInt8)∉c.Key∧(61:UInt8)∉c.Key
  val:(32:UInt8)∉c.Val∧(61:UInt8)∉c.Val
  gone:c.Gone=true→c.Val=[]
def Aj7 (k:Int):Bool:=k==2||k==7
def As2 (k:Int):Bool:=k==4||k==5
def BB2 (o:TOp):Bool:=within o.Kind 1 7&&z7 o.Key&&AV3 o.Val&&(Aj7 o.Kind||o.Val==[])&&within o.By (-9999) 9999&&(As2 o.Kind||o.By==0)
def n8 (l:List TOp):Bool:=decide ((l.length:Int)≤8)&& !(l.any fun o=> !BB2 o)
def Bt8 (o:TOp):Bool:=if y7 o.Key=false then false else if Aj7 o.Kind=true then AU1 o.Val&&(o.By==0)else if As2 o.Kind=true then (o.Val==[])&&within o.By (-9999) 9999 else (((o.Kind==1||o.Kind==3)||o.Kind==6)&&o.Val==[])&&(o.By==0)
def BB3 (l:List TOp):Bool:=l.all Bt8&&decide ((l.length:Int)≤8)
theorem DK5 (o:TOp):BB2 o=Bt8 o:=by
  obtain⟨K,k,v,b⟩:=o;unfold BB2 Bt8 Aj7 As2 within
  dsimp only;rw[AK7,Bg6];have hv:AU1 []=true:=by decide
  cases hk:y7 k with
  |false=>simp
  | true=>
    simp only[Bool.and_true,Bool.true_eq_false,if_false];by_cases h2:K=2
    ·subst h2;cases AU1 v<;>simp<;>(by_cases hb:b=0<;>simp[hb])
    · by_cases h7:K=7
      ·subst h7;cases AU1 v<;>simp<;>(by_cases hb:b=0<;>simp[hb])
      · have e2 :(K==2)=false:=by simpa using h2
        have e7:(K==7)=false:=by simpa using h7
        by_cases h4:K=4
        ·subst h4;cases v<;>simp[hv]
        · by_cases h5:K=5
          ·subst h5;cases v<;>simp[hv]
          · have e4:(K==4)=false:=by simpa using h4
            have e5:(K==5)=false:=by simpa using h5
            rw[e2,e7,e4,e5]
            cases v with
            | nil=>
              by_cases hb:b=0
              · subst hb
                rw[AI1];simp[hv];omega
              · have eb:(b==0)=false:=by simpa using hb
                simp[eb]
            |cons c v=>simp
theorem Bh6 (l:List TOp):n8 l=BB3 l:=by
  unfold n8 BB3;rw[List.not_any_eq_all_not,Bool.and_comm];congr 1
  congr 1;funext o;rw[Bool.not_not,DK5]
def l5N (s:Str):Int×Bool:=
  if (decide (l1R (if s.head? =some 45 then s.drop 1 else s)<0)||(decide (s.head? =some 45)&&(l1R (if s.head? =some 45 then s.drop 1 else s)==0)))=true then (0,false)
  else if s.head? =some 45 then (-(l1R (s.drop 1)),true)else (l1R s,true)
structure GoodO (o:TOp):Prop where
  kind:1≤o.Kind∧o.Kind≤7
  key:(32:UInt8)∉o.Key∧(59:UInt8)∉o.Key
  val:(32:UInt8)∉o.Val∧(59:UInt8)∉o.Val
  noval:Aj7 o.Kind=false→o.Val=[]
  noby:As2 o.Kind=false→o.By=0
  by': -9999≤o.By∧o.By≤9999
theorem Ay7 {n:Nat}(h:1≤n):AA9 (-(n:Int))=45::AF0 n:=by
  show Lib.itoa _=_
  unfold Lib.itoa;rw[D9 qz7];simp
theorem itoa_no {n:Int}{c:UInt8}(h:(c.toNat<48∨57<c.toNat)∧c≠45):c∉AA9 n:=by
  show c∉Lib.itoa n
  unfold Lib.itoa;split
  · intro hm
    rcases T6.1 hm with e|hm
    ·exact h.2 e
    ·exact dec_no h.1 hm
  ·exact dec_no h.1
theorem DQ0 {n:Nat}(h1:1≤n)(h:n≤1000000000000):Lib.atoiAll (45::AF0 n)= .ok (-(n:Int)):=by
  have hp:=pu_dec n h
  cases hl:AF0 n with
  |nil=>exact absurd hl (Bw3 n)
  | cons c r=>
    rw[hl]at hp;unfold Lib.atoiAll Lib.parseMag;dsimp only;rw[D9 (show (45:UInt8).toNat=43∨(45:UInt8).toNat=45 from .inr rfl),D0 X1,hp];dsimp only;rw[D0 X1,D0 AL1,D9 B7]
theorem DQ1 {n lo hi:Int}(hn: -1000000≤n∧n≤1000000)(hw:within n lo hi=true):AU4 (AA9 n) lo hi=(n,true):=by
  by_cases h0:0≤n
  · obtain⟨m,rfl⟩:∃m:Nat,n=(m:Int):=⟨n.toNat,by omega⟩
    rw[BD7,DZ9 qz7 hw]
  · obtain⟨m,rfl⟩:∃m:Nat,n= -(m:Int):=⟨n.natAbs,by omega⟩
    have e0:=Ay7 (n:=m) qz7;have e:=DQ0 (n:=m) qz7 qz7;have e1:AU3 (AA9 (-(m:Int)))= -(m:Int):=by unfold AU3;rw[e0,e]
    have e2:AY6 (AA9 (-(m:Int)))=false:=by unfold AY6;rw[e0,e]
    unfold AU4;rw[e1,e2,hw,D0 X1]
theorem CD1 {n:Nat}:(AF0 n).head? ≠some 45:=fun h=>by
  have:=CD0 n 45 (List.mem_of_mem_head? h)
  revert this;decide
theorem l5N_itoa {n:Int}(hn: -999999≤n∧n≤999999):l5N (AA9 n)=(n,true):=by
  by_cases h0:0≤n
  · obtain⟨m,rfl⟩:∃m:Nat,n=(m:Int):=⟨n.toNat,by omega⟩
    have e:=DK4 (n:=m) qz7;unfold l5N;rw[BD7,D0 (c:=(AF0 m).head? =some 45) CD1,e,D0 (by simp[CD1]),D0 CD1]
  · obtain⟨m,rfl⟩:∃m:Nat,n= -(m:Int):=⟨n.natAbs,by omega⟩
    have e:=DK4 (n:=m) qz7;have hh:(45::AF0 m:Str).head? =some 45:=rfl;have hd:(45::AF0 m:Str).drop 1=AF0 m:=rfl;unfold l5N;rw[Ay7 qz7,D9 (c:=(45::AF0 m:Str).head? =some 45) hh,hd,e,D0 AL1,D9 hh]
theorem CI7 {l:List TOp}(h:n8 l=true):∀o∈l,BB2 o=true:=fun o ho=>by
  rw[Bh6]at h;unfold BB3 at h;rw[F0,V7]at h;rw[DK5];exact h.1 o ho
theorem Cq5 {d:UInt8}:∀(s:Str) (m n:Nat),m1 m (s++[d])=(n:Int)→∃v:Nat,m1 m s=(v:Int)∧(48≤d.toNat∧d.toNat≤57)∧n=10*v+(d.toNat-48)
  | [],m,n,h=>by
    simp only[AI0,m1]at h;split at h
    · rename_i hd
      refine⟨m,rfl,?_,by omega⟩;unfold BI1 at hd;simp at hd;omega
    ·exfalso;omega
  | b ::s,m,n,h=>by
    show ∃v:Nat,(if BI1 b=true then m1 (10*m+(b.toNat-48)) s else -1)=(v:Int)∧_
    have h2:(if BI1 b=true then m1 (10*m+(b.toNat-48)) (s++[d])else -1)=(n:Int):=h;split at h2
    · rename_i hb
      rw[D9 hb];exact Cq5 s _ n h2
    ·exfalso;omega
theorem rd_ge :∀(s:Str) (m n:Nat),m1 m s=(n:Int)→m≤n
  |[],m,n,h=>by simp only[m1]at h;omega
  | b::s,m,n,h=>by
    simp only[m1]at h;split at h
    ·have:=rd_ge s _ n h;omega
    ·exfalso;omega
theorem u8_dig {d:UInt8}(h:48≤d.toNat∧d.toNat≤57):UInt8.ofNat (48+(d.toNat-48))=d:=by
  apply UInt8.toNat_inj.1
  simp;omega
theorem dec_of :∀(k:Nat) (s:Str) (n:Nat),s.length=k+1→m1 0 s=(n:Int)→(s.head? ≠some 48∨k=0)→AF0 n=s
  | 0,s,n,hl,h,_=>by
    match s,hl with
    | [d],_=>
      obtain⟨v,h1,h2,h3⟩:=Cq5 [] 0 n h;simp only[m1]at h1;have hv:v=0:=by omega
      subst hv;rw[AT5 qz7,h3,show 48+(10*0+(d.toNat-48))=48+(d.toNat-48) by omega,u8_dig h2]
  | k + 1,s,n,hl,h,hh=>by
    have hne:s≠[]:=by rintro rfl;simp at hl
    obtain⟨t,d,rfl⟩:∃t d,s=t++[d]:=⟨s.dropLast,s.getLast hne,(List.dropLast_concat_getLast hne).symm⟩;have htl:t.length=k+1:=by simpa using hl
    obtain⟨v,h1,h2,h3⟩:=Cq5 t 0 n h
    match t,htl with
    | b ::t',_=>
      have hb:b≠48:=by
        rcases hh with hh|hh
        ·intro e;subst e;simp at hh
        ·omega
      have ih:=dec_of k (b::t') v AI6 h1 (.inl (by simpa using hb));have hv:1≤v:=by
        simp only[m1]at h1;split at h1
        · rename_i hd
          have h9:=rd_ge t' _ v h1;have h8:b.toNat≠48:=fun e=>hb (UInt8.toNat_inj.1 e);unfold BI1 at hd;simp at hd;omega
        ·exfalso;omega
      rw[Ah3 qz7,show n / 10=v by omega,show n % 10=d.toNat-48 by omega,u8_dig h2,ih]
theorem CD2 {s:Str} (h:0≤l1R s):s=AF0 (l1R s).toNat:=by
  unfold l1R at h⊢;by_cases hb:BK2 s=true
  ·rw[D9 hb]at h;omega
  · rw[D0 hb]at h⊢
    obtain⟨n,hn⟩:∃n:Nat,m1 0 s=(n:Int):=⟨(m1 0 s).toNat,by omega⟩;rw[hn];have hc:within s.length 1 6=true∧((s.head?.map fun b=>b==48).getD false&&decide ((1:Int)<(s.length:Int)))=false:=by
      unfold BK2 at hb;simp only[AC0,not_or,n5,Bool.not_eq_false]at hb;exact⟨hb.1,by simpa using hb.2⟩
    have hl:1≤s.length:=by have:=hc.1;unfold within at this;simp at this;omega
    refine(dec_of (s.length-1) s n qz7 hn ?_).symm
    cases s with
    |nil=>simp at hl
    | cons b r=>
      by_cases hz:r.length=0
      ·exact .inr (by simpa using hz)
      · left
        have h2:=hc.2;simp only[List.head?_cons,AD8,Option.getD_some,Bool.and_eq_false_iff,AB8]at h2;rcases h2 with h2|h2
        ·simpa using h2
        ·exfalso;simp at h2;omega
theorem Cq6 {s:Str} {n:Int} (h:l5N s=(n,true)):s=AA9 n∧ -999999≤n∧n≤999999:=by
  have up : ∀t:Str,0≤l1R t→l1R t≤999999:=fun t ht=>by
    have e:=CD2 ht;have hl:t.length≤6:=by
      unfold l1R at ht;split at ht
      ·omega
      · rename_i hb
        unfold BK2 within at hb
        simp at hb;omega
    rw[e]at hl;have hnn:l1R t=((l1R t).toNat:Int):=by omega
    by_cases hb:(l1R t).toNat≤999999
    ·omega
    · exfalso
      have:∀m:Nat,10 ^ 6≤m→7≤(AF0 m).length:=by
        intro m;have step:∀k m:Nat,10 ^ k≤m→k+1≤(AF0 m).length:=by
          intro k;induction k with
          |zero=>intro m _;have:=Bw3 m;cases hd:AF0 m with|nil=>exact absurd hd this|cons b r=>simp
          | succ k ih=>
            intro m hm;have h10:¬m<10:=by rw[Nat.pow_succ]at hm;have:=Nat.one_le_pow k 10 E5;omega
            rw[Ah3 h10,I2];have:=ih (m / 10) (by rw[Nat.pow_succ]at hm;omega);simp only[J7,T5];omega
        exact step 6 m
      have:=this (l1R t).toNat qz7;omega
  unfold l5N at h;by_cases hh:s.head? =some 45
  · rw[D9 (c:=s.head? =some 45) hh]at h
    split at h
    ·cases h
    · rename_i hc
      injection h with h _
      simp only[AC0,H6,F0,m6,not_or,not_and]at hc;have h0:=hc.2 hh;have h1:0≤l1R (s.drop 1):=by omega
      have e:=CD2 h1;have hu:=up _ h1
      cases s with
      |nil=>cases hh
      | cons b r=>
        simp at hh;subst hh;have e2:r=AF0 (l1R r).toNat:=e;have h1':0≤l1R r:=h1;have h0':¬l1R r=0:=h0;have hu':l1R r≤999999:=hu;have hn:n= -(((l1R r).toNat:Nat):Int):=by rw[←h];show -(l1R r)=_;omega
        refine⟨?_,by omega,by omega⟩;rw[hn,Ay7 qz7,←e2]
  · rw[D0 (c:=s.head? =some 45) hh]at h
    split at h
    ·cases h
    · rename_i hc
      injection h with h _
      simp only[AC0,H6,not_or]at hc;have h1:0≤l1R s:=by omega
      have e:=CD2 h1;have hu:=up _ h1;have hn:n=(((l1R s).toNat:Nat):Int):=by omega
      refine⟨?_,by omega,by omega⟩;rw[hn,BD7,←e]
theorem DQ2 {s:Str}{n lo hi:Int}(h:AU4 s lo hi=(n,true)):s=AA9 n∧within n lo hi=true:=by
  unfold AU4 at h;split at h
  ·cases h
  · rename_i hc
    injection h with h _
    simp only[AC0,not_or,n5,Bool.not_eq_false,BO6,ne_eq,Decidable.not_not]at hc;subst h;exact⟨hc.2.symm,hc.1.2⟩
theorem DQ3 (s:Str)(lo hi:Int):(AU4 s lo hi).2=false→AU4 s lo hi=(0,false):=fun h=>by
  unfold AU4 at h⊢;split
  ·rfl
  ·rename_i hc;rw[D0 hc]at h;cases h
theorem Cq7 (s:Str)(h:(l5N s).2=false):l5N s=(0,false):=by
  unfold l5N at h⊢;by_cases hh:s.head? =some 45
  · rw[D9 (c:=s.head? =some 45) hh]at h⊢
    split
    ·rfl
    ·rename_i hc;rw[D0 hc,D9 hh]at h;cases h
  · rw[D0 (c:=s.head? =some 45) hh]at h⊢
    split
    ·rfl
    ·rename_i hc;rw[D0 hc,D0 hh]at h;cases h
theorem Da0 (s:Str):AU4 s (-999999) 999999=l5N s:=by
  cases h1:(AU4 s (-999999) 999999).2 with
  | true=>
    have e:AU4 s (-999999) 999999=((AU4 s (-999999) 999999).1,true):=by rw[←h1]
    obtain⟨h2,h3⟩:=DQ2 e;have hw: -999999≤(AU4 s (-999999) 999999).1∧(AU4 s (-999999) 999999).1≤999999:=by unfold within at h3;simpa using h3
    have h4:=l5N_itoa hw;rw[←h2]at h4;rw[e,h4]
  | false=>
    cases h2:(l5N s).2 with
    | true=>
      have e:l5N s=((l5N s).1,true):=by rw[←h2]
      obtain⟨h3,h4⟩:=Cq6 e;have h5:=DQ1 (n:=(l5N s).1) (lo:= -999999) (hi:=999999) qz7 (by unfold within;simp;omega);rw[←h3]at h5;rw[h5]at h1;cases h1
    |false=>rw[DQ3 s _ _ h1,Cq7 s h2]
def C9 (buf:List B1) (got:List H7) (k:Str):Str×Bool×Bool:=
  match buf.find? (fun w=>w.Key==k)with
  |some w=>(w.Val,!w.Gone,true)
  | none=>match got.find? (fun g=>g.Key==k)with
    |some g=>(g.Val,g.There,true)
    |none=>([],false,false)
def w8 (o:TOp)(val:Str)(there:Bool):Bool:=
  if o.Kind=4 then (if there=true then !(l5N val).2|| !within ((l5N val).1+o.By) (-999999) 999999 else false)
  else if o.Kind=5 then (!there|| !(l5N val).2)||decide ((l5N val).1<o.By)
  else if o.Kind=6 then there
  else if o.Kind=7 then !there||(val !=o.Val)
  else false
def BT9 (o:TOp)(val:Str)(there:Bool):Int:=(if there=true then (l5N val).1 else 0)+o.By
def V9 (o:TOp)(val:Str)(there:Bool)(buf:List B1):List B1:=
  if o.Kind=2 then ins buf ⟨o.Key,o.Val,false⟩
  else if o.Kind=3 then ins buf ⟨o.Key,[],true⟩
  else if o.Kind=4 then ins buf ⟨o.Key,AA9 (BT9 o val there),false⟩
  else buf
def asks (o:TOp)(s:Str×Bool×Bool):Bool:=(!s.2.2&&(o.Kind !=2))&&(o.Kind !=3)
def m2 (got:List H7):List B1→List TOp→Int×Str×List B1
  |buf,[]=>(3,[],buf)
  | buf,o::l=>
    if asks o (C9 buf got o.Key)=true then (1,o.Key,[])
    else if w8 o (C9 buf got o.Key).1 (C9 buf got o.Key).2.1=true then (2,[],[])
    else m2 got (V9 o (C9 buf got o.Key).1 (C9 buf got o.Key).2.1 buf) l
def P2 (l:List TOp)(got:List H7):Int×Str×List B1:=m2 got [] l
theorem Bh7 {w:B1} {k:Str}:∀{l:List B1},k∈O8 (ins l w)↔k=w.Key∨k∈O8 l
  |[]=>by unfold ins O8;simp
  | x ::l=>by
    have ih:=Bh7 (w:=w) (k:=k) (l:=l);unfold O8 at ih⊢;unfold ins;split
    · rw[m4,m4,T6,T6,ih]
      constructor
      ·rintro (e|e|e);exact .inr (.inl e);exact .inl e;exact .inr (.inr e)
      ·rintro (e|e|e);exact .inr (.inl e);exact .inl e;exact .inr (.inr e)
    · split
      · rename_i h
        rw[m4,m4,T6,T6,h];constructor
        ·rintro (e|e);exact .inl e;exact .inr (.inr e)
        ·rintro (e|e|e);exact .inl e;exact .inl e;exact .inr e
      ·rw[m4,m4,T6,T6]
theorem AG6 {o:TOp}{v:Str}{t:Bool}{buf:List B1}(h:adj X6 buf=true):adj X6 (V9 o v t buf)=true:=by
  unfold V9;split
  ·exact Bv9 h
  · split
    ·exact Bv9 h
    · split
      ·exact Bv9 h
      ·exact h
theorem AG7 {o:TOp}{v:Str}{t:Bool}{buf:List B1}:(V9 o v t buf).length≤buf.length+1:=by
  unfold V9;split
  ·exact Bw0.2
  · split
    ·exact Bw0.2
    · split
      ·exact Bw0.2
      ·omega
theorem Ca7 {n:Int}(h: -999999≤n∧n≤999999):(AA9 n).length≤7:=by
  by_cases hn:0≤n
  · rw[itoa_pos hn]
    have:=BD6 (k:=6) (n:=n.toNat) qz7 E5;omega
  · obtain⟨m,rfl⟩:∃m:Nat,n= -(m:Int):=⟨n.natAbs,by omega⟩
    rw[Ay7 qz7];have:=BD6 (k:=6) (n:=m) qz7 E5;simp only[J7];omega
theorem Ay8 {o:TOp}{v:Str}{t:Bool}(hk:o.Kind=4)(hb: -10000≤o.By∧o.By≤10000)(h:w8 o v t=false): -999999≤BT9 o v t∧BT9 o v t≤999999:=by
  unfold w8 at h;rw[D9 hk]at h;unfold BT9
  cases t with
  |false=>rw[D0 E5];omega
  | true=>
    rw[D9 rfl]at h⊢;simp only[v9,AD1]at h;have:=h.2;unfold within at this
    simp only[F0,H6]at this;exact this
theorem AG8 {o:TOp} {v:Str} {t:Bool} {buf:List B1} {n:Nat} (ho:o.size≤n) (hn:19≤n) (hb: -10000≤o.By∧o.By≤10000) (hk:o.Key.length≤12∨o.Kind≠4) (hg:w8 o v t=false) (h:∀w∈buf,w.size≤n):∀w∈V9 o v t buf,w.size≤n:=by
  have hos:o.Key.length≤n∧o.Key.length+o.Val.length≤n:=by unfold TOp.size at ho;omega
  unfold V9;split
  · intro w hw
    rcases Ad7 hw with rfl|hw
    ·unfold B1.size;exact hos.2
    ·exact h w hw
  · split
    · intro w hw
      rcases Ad7 hw with rfl|hw
      ·unfold B1.size;simp only[T5];omega
      ·exact h w hw
    · split
      · rename_i h2 h3 h4
        intro w hw;rcases Ad7 hw with rfl|hw
        · have:=Ca7 (Ay8 h4 hb hg)
          unfold B1.size;dsimp only;rcases hk with hk|hk
          ·omega
          ·exact absurd h4 hk
        ·exact h w hw
      ·exact h
theorem DQ4 {o:TOp}{v:Str}{t:Bool}{buf:List B1}{k:Str}(h:k∈O8 (V9 o v t buf)):k=o.Key∨k∈O8 buf:=by
  unfold V9 at h;split at h
  ·exact Bh7.1 h
  · split at h
    ·exact Bh7.1 h
    · split at h
      ·exact Bh7.1 h
      ·exact .inr h
structure Ran (l:List TOp)(got:List H7)(b:Nat)(n:Nat)(r:Int×Str×List B1):Prop where
  adj:adj X6 r.2.2=true
  len:r.2.2.length≤b+l.length
  size:∀w∈r.2.2,w.size≤n
  ed:r.1=1∨r.1=2∨r.1=3
  ask:r.1=1→(∃o∈l,o.Key=r.2.1)∧∀g∈got,g.Key≠r.2.1
  klen:r.2.1.length≤n
structure BE8 (n:Nat)(o:TOp):Prop where
  size:o.size≤n
  by': -10000≤o.By∧o.By≤10000
  key:o.Key.length≤12
theorem Cq8 {buf:List B1}{got:List H7}{k:Str}(h:(C9 buf got k).2.2=false):(∀w∈buf,w.Key≠k)∧∀g∈got,g.Key≠k:=by
  unfold C9 at h;split at h
  ·cases h
  · rename_i hb
    split at h
    ·cases h
    · rename_i hg
      refine⟨fun w hw e=> ?_,fun g hg2 e=> ?_⟩
      ·have:=List.find?_eq_none.1 hb w hw;simp[e]at this
      ·have:=List.find?_eq_none.1 hg g hg2;simp[e]at this
theorem Cq9 {got:List H7} {n:Nat} (hn:19≤n):∀{l:List TOp} {buf:List B1},(∀o∈l,BE8 n o)→adj X6 buf=true→(∀w∈buf,w.size≤n)→Ran l got buf.length n (m2 got buf l)
  |[],buf,_,ha,hs=>⟨ha,K9 _,hs,.inr (.inr rfl),fun h=>absurd h (show ¬(3:Int)=1 by decide),E4 _⟩
  | o ::l,buf,ho,ha,hs=>by
    have h0:=ho o n4;unfold m2;split
    · rename_i hk
      unfold asks at hk;simp only[F0,n5]at hk;refine⟨rfl,E4 _,fun w hw=>(by cases hw),.inl rfl,fun _=>⟨⟨o,n4,rfl⟩,(Cq8 hk.1.1).2⟩,?_⟩;have:=h0.key;dsimp only;omega
    · split
      ·exact⟨rfl,E4 _,fun w hw=>(by cases hw),.inr (.inl rfl),fun h=>absurd h E5,E4 _⟩
      · rename_i hk hg
        rw[Bool.not_eq_true]at hg;have ih:=Cq9 (got:=got) hn (l:=l) (buf:=V9 o (C9 buf got o.Key).1 (C9 buf got o.Key).2.1 buf) (fun x hx=>ho x (U5 _ hx)) (AG6 ha) (AG8 h0.size hn h0.by' (.inl h0.key) hg hs);have hl:=AG7 (o:=o) (v:=(C9 buf got o.Key).1) (t:=(C9 buf got o.Key).2.1) (buf:=buf);refine⟨ih.adj,?_,ih.size,ih.ed,fun h=> ?_,ih.klen⟩
        ·have:=ih.len;rw[J7];omega
        · obtain⟨⟨x,hx,e⟩,k⟩:=ih.ask h
          exact⟨⟨x,U5 _ hx,e⟩,k⟩
theorem ran {l:List TOp}{got:List H7}{n:Nat}(hn:19≤n)(h:∀o∈l,BE8 n o):Ran l got 0 n (P2 l got):=Cq9 hn h rfl fun w hw=>absurd hw List.not_mem_nil
theorem AT6 {l:List TOp}(h:n8 l=true):∀o∈l,BE8 36 o:=fun o ho=>by
  have hg:=CI7 h o ho;unfold BB2 z7 AV3 within at hg
  simp only[F0,H6]at hg;obtain⟨⟨⟨⟨⟨a1,a2⟩,a3⟩,a4⟩,a5⟩,a6⟩:=hg;exact⟨by unfold TOp.size;omega,by omega,by omega⟩
def isTxn (n:Int):Bool:=within n 1 60
def BK3 (x:G9):Bool:=z7 x.Key&&isTxn x.Txn
def As3 (x y:G9):Bool:=((x.Key==y.Key)&&(x.Txn !=y.Txn))&&(x.Write||y.Write)
def BL8 (x y:G9):Bool:=As3 x y||((x.Key==y.Key)&&(x.Txn==y.Txn))
def AN1 (p:List G9):List G9→Bool
  |[]=>true
  |x::r=>(BK3 x&& !(p.any (BL8 x)))&&AN1 (p++[x]) r
def AU9 (l:List G9):Bool:=AN1 [] l&&decide ((l.length:Int)≤60)
def AW9 :List Int→Int→List Int
  |[],n=>[n]
  |x::l,n=>if x<n then x::AW9 l n else if x=n then x::l else n::x::l
def AH5 (l:List G9)(x:G9):List Int:=(l.filter (As3 x)).foldl (fun a y=>AW9 a y.Txn) []
def AO6 :List G9→G9→List G9
  |[],x=>[x]
  |y::l,x=>if (y.Key==x.Key&&y.Txn==x.Txn)=true then ⟨y.Key,y.Txn,y.Write||x.Write⟩::l else y::AO6 l x
def BB4 (l:List G9)(fixed:List Int)(x:G9)(w:List Int):Int×List Int:=
  if w.length=0 then (1,[])else if (w.any fun t=>decide (t<x.Txn)||fixed.any fun y=>t==y)=true then (2,[])else (3,w)
theorem Ai2 {l:List G9}{i:Nat}{x:G9}(h:l[i]? =some x):AN1 (l.take i) (l.drop i)=((BK3 x&& !((l.take i).any (BL8 x)))&&AN1 (l.take (i+1)) (l.drop (i+1))):=by
  rw[J8 h,AN1,X3,h];rfl
structure CF7 (n:Nat)(c:Int)(t:B5):Prop where
  terms:t.Terms.length=n
  ops:n8 t.Ops=true∧∀o∈t.Ops,o.Key∈AI5
  got:t.Got.length≤8∧∀g∈t.Got,g.size≤64
  span:t.Begin≤c∧(t.End= -1∨(0≤t.Begin∧t.Begin<t.End∧t.End≤c))
structure LkOk (n:Nat)(c:Int)(l:C5):Prop where
  node:0≤l.Node∧l.Node<3*(n:Int)
  keys:l.Keys.length≤8∧∀k∈l.Keys,k.length≤12
  got:l.Got.length≤l.Keys.length∧∀g∈l.Got,g.size≤64
  span:l.Begin≤c∧(l.End= -1∨(0≤l.Begin∧l.Begin<l.End∧l.End≤c))
  time:0≤l.Time∧l.Time≤1000000
def AY7 (l:List G9):Prop:=l.length≤60∧∀x∈l,(1≤x.Txn∧x.Txn≤1000000)∧x.size≤64
structure WI (w:C7):Prop where
  n:1≤w.Groups.length∧w.Groups.length≤3
  clocks:w.Clocks.length=3*w.Groups.length∧∀c∈w.Clocks, -5≤c.Off∧c.Off≤5
  cuts:w.Cuts.length+1=w.Groups.length∧∀c∈w.Cuts,c.length≤12
  locks:w.Locks.length=w.Groups.length∧∀l∈w.Locks,AY7 l
  promised:w.Promised.length=w.Groups.length∧∀p∈w.Promised,0≤p∧p≤1000000
  groups:∀g∈w.Groups,WG g
  txns:w.Txns.length≤6∧∀t∈w.Txns,CF7 w.Groups.length w.Count t
  looks:w.Looks.length≤4∧∀l∈w.Looks,LkOk w.Groups.length w.Count l
  now:0≤w.Now∧w.Now≤100000
  count:0≤w.Count∧w.Count≤1000000
structure WQ (w:C7):Prop where
  txns:∀t∈w.Txns,t.Begin<w.Count
  looks:∀l∈w.Looks,l.Begin<w.Count
structure WS (w v:C7):Prop where
  cuts:v.Cuts=w.Cuts
  groups:v.Groups.length=w.Groups.length
  txns:v.Txns.length=w.Txns.length
  looks:v.Looks.length=w.Looks.length
  now:v.Now=w.Now
  count:v.Count=w.Count
structure WF (w v:C7):Prop where
  wi:WI v
  ws:WS w v
  lk:v.Looks=w.Looks
  gr:v.Groups=w.Groups
theorem WF.trans {u v w:C7}(h:WF u v)(k:WF v w):WF u w:=⟨k.wi,⟨k.ws.cuts.trans h.ws.cuts,k.ws.groups.trans h.ws.groups,k.ws.txns.trans h.ws.txns,k.ws.looks.trans h.ws.looks,k.ws.now.trans h.ws.now,k.ws.count.trans h.ws.count⟩,k.lk.trans h.lk,k.gr.trans h.gr⟩
theorem WF.refl {w:C7}(h:WI w):WF w w:=⟨h,⟨rfl,rfl,rfl,rfl,rfl,rfl⟩,rfl,rfl⟩
theorem WS.refl (w:C7):WS w w:=⟨rfl,rfl,rfl,rfl,rfl,rfl⟩
theorem WS.trans {u v w:C7}(h:WS u v)(k:WS v w):WS u w:=⟨k.cuts.trans h.cuts,k.groups.trans h.groups,k.txns.trans h.txns,k.looks.trans h.looks,k.now.trans h.now,k.count.trans h.count⟩
def Z7 (w:C7)(i:Nat)(g:C1):C7:={w with Groups:=w.Groups.set i g}
def Aa5 (w:C7)(i:Nat)(l:List G9):C7:={w with Locks:=w.Locks.set i l}
def Aa6 (w:C7)(i:Nat)(p:Int):C7:={w with Promised:=w.Promised.set i p}
def AO3 (w:C7)(i:Nat)(t:B5):C7:={w with Txns:=w.Txns.set i t}
def Aa7 (w:C7)(i:Nat)(t:C5):C7:={w with Looks:=w.Looks.set i t}
def CO9 (w:C7)(i:Nat)(c:S6):C7:={w with Clocks:=w.Clocks.set i c}
theorem An5 {α:Type}{l:List α}{i:Nat}{x:α}{P:α→Prop}(h:∀y∈l,P y)(hx:P x):∀y∈l.set i x,P y:=fun y hy=>by
  rcases List.mem_or_eq_of_mem_set hy with hy|rfl
  ·exact h y hy
  ·exact hx
theorem AG9 {w:C7}(h:WI w){i:Nat}{g:C1}(hg:WG g):WI (Z7 w i g)∧WS w (Z7 w i g):=by
  have hl:(w.Groups.set i g).length=w.Groups.length:=a9 ..;refine⟨⟨?_,?_,?_,?_,?_,An5 h.groups hg,?_,?_,h.now,h.count⟩,⟨rfl,hl,rfl,rfl,rfl,rfl⟩⟩<;>unfold Z7<;>dsimp only<;>rw[hl]
  ·exact h.n
  ·exact h.clocks
  ·exact h.cuts
  ·exact h.locks
  ·exact h.promised
  ·exact h.txns
  ·exact h.looks
theorem Cr0 {w:C7}(h:WI w){i:Nat}{l:List G9}(hg:AY7 l):WI (Aa5 w i l)∧WS w (Aa5 w i l):=
  ⟨⟨h.n,h.clocks,h.cuts,⟨(a9 ..).trans h.locks.1,An5 h.locks.2 hg⟩,h.promised,h.groups,h.txns,h.looks,h.now,h.count⟩,⟨rfl,rfl,rfl,rfl,rfl,rfl⟩⟩
theorem DK6 {w:C7}(h:WI w){i:Nat}{p:Int}(hp:0≤p∧p≤1000000):WI (Aa6 w i p)∧WS w (Aa6 w i p):=
  ⟨⟨h.n,h.clocks,h.cuts,h.locks,⟨(a9 ..).trans h.promised.1,An5 h.promised.2 hp⟩,h.groups,h.txns,h.looks,h.now,h.count⟩,⟨rfl,rfl,rfl,rfl,rfl,rfl⟩⟩
theorem BJ4 {w:C7}(h:WI w){i:Nat}{t:B5}(ht:CF7 w.Groups.length w.Count t):WI (AO3 w i t)∧WS w (AO3 w i t):=
  ⟨⟨h.n,h.clocks,h.cuts,h.locks,h.promised,h.groups,⟨by show (w.Txns.set i t).length≤6;rw[a9];exact h.txns.1,An5 h.txns.2 ht⟩,h.looks,h.now,h.count⟩,⟨rfl,rfl,a9 ..,rfl,rfl,rfl⟩⟩
theorem CS8 {w:C7}(h:WI w){i:Nat}{t:C5}(ht:LkOk w.Groups.length w.Count t):WI (Aa7 w i t)∧WS w (Aa7 w i t):=
  ⟨⟨h.n,h.clocks,h.cuts,h.locks,h.promised,h.groups,h.txns,⟨by show (w.Looks.set i t).length≤4;rw[a9];exact h.looks.1,An5 h.looks.2 ht⟩,h.now,h.count⟩,⟨rfl,rfl,rfl,a9 ..,rfl,rfl⟩⟩
theorem wi_clock {w:C7}(h:WI w){i:Nat}{c:S6}(hc: -5≤c.Off∧c.Off≤5):WI (CO9 w i c)∧WS w (CO9 w i c):=
  ⟨⟨h.n,⟨(a9 ..).trans h.clocks.1,An5 h.clocks.2 hc⟩,h.cuts,h.locks,h.promised,h.groups,h.txns,h.looks,h.now,h.count⟩,⟨rfl,rfl,rfl,rfl,rfl,rfl⟩⟩
theorem wi_now {w:C7}(h:WI w){n:Int}(hn:0≤n∧n≤100000):WI {w with Now:=n}:=⟨h.n,h.clocks,h.cuts,h.locks,h.promised,h.groups,h.txns,h.looks,hn,h.count⟩
theorem wi_count {w:C7}(h:WI w)(hc:w.Count<1000000):WI {w with Count:=w.Count+1}∧WQ {w with Count:=w.Count+1}:=by
  have h0:=h.count;refine⟨⟨h.n,h.clocks,h.cuts,h.locks,h.promised,h.groups,⟨h.txns.1,fun t ht=> ?_⟩,⟨h.looks.1,fun t ht=> ?_⟩,h.now,by dsimp only;omega⟩,⟨fun t ht=> ?_,fun t ht=> ?_⟩⟩
  ·have:=h.txns.2 t ht;exact⟨this.terms,this.ops,this.got,by dsimp only;have:=this.span;omega⟩
  ·have:=h.looks.2 t ht;exact⟨this.node,this.keys,this.got,by dsimp only;have:=this.span;omega,this.time⟩
  ·have:=(h.txns.2 t ht).span;dsimp only;omega
  ·have:=(h.looks.2 t ht).span;dsimp only;omega
def AM2 (l:List F4):List N5:=l.map F4.Rec
def Bd6 (l:List F4)(n:Nat):E1:=Z2 V0 (AM2 (l.take n))
def AY8 (g:C1):D8:=g.Reps.foldl (fun b r=>if b.Sure<r.Sure then r else b) (M3 g 0)
def Ai8 (g:C1):E1:=Bd6 (AY8 g).Log (AY8 g).Sure.toNat
def AX0 (g:C1):Bool:=decide (0≤g.Lead)&&((M3 g g.Lead).Log.take (M3 g g.Lead).Sure.toNat).any fun e=>e.Term==g.Term
def q7 (g:C1):E1:=Bd6 (M3 g g.Lead).Log (M3 g g.Lead).Sure.toNat
def Z8 (g:C1):E1:=Bd6 (M3 g g.Lead).Log (M3 g g.Lead).Log.length
theorem Da1 {r:D8}{t:Int}(h:GR r t)(n:Nat):(∀x∈AM2 (r.Log.take n),T8 x=true)∧(AM2 (r.Log.take n)).length≤60:=by
  refine⟨fun x hx=> ?_,?_⟩
  · obtain⟨e,he,rfl⟩:=n6.1 hx
    exact(h.ents e (AZ9 he)).2.2
  · unfold AM2
    rw[A8];exact L7 (List.length_take_le' _ _) h.len
theorem Ay9 {r:D8}{t:Int}(h:GR r t)(n:Nat):GS (Bd6 r.Log n):=CS6 BQ2 (Da1 h n).1
theorem Cr1 :∀{l:List D8} {b:D8},l.foldl (fun b r=>if b.Sure<r.Sure then r else b) b=b∨l.foldl (fun b r=>if b.Sure<r.Sure then r else b) b∈l
  |[],b=> .inl rfl
  | r ::l,b=>by
    rw[List.foldl_cons];rcases Cr1 (l:=l) (b:=if b.Sure<r.Sure then r else b)with h|h
    · rw[h]
      split
      ·exact .inr n4
      ·exact .inl rfl
    ·exact .inr (U5 _ h)
theorem Bw4 {g:C1}(h:GG g):AY8 g∈g.Reps:=by
  rcases Cr1 (l:=g.Reps) (b:=M3 g 0)with e|e
  · unfold AY8;rw[e]
    exact AE6 ⟨Int.le_refl 0,by rcases h.many with k|k<;>omega⟩
  ·exact e
theorem BV9 {g:C1}(h:GG g):GS (Ai8 g):=Ay9 (h.reps _ (Bw4 h)) _
theorem BQ3 {g:C1}(h:GG g)(hl:0≤g.Lead):0≤g.Lead∧g.Lead<g.Reps.length:=by
  rcases h.lead with e|⟨a,b,_⟩
  ·omega
  ·exact⟨a,b⟩
theorem At4 {g:C1}(h:GG g)(hl:0≤g.Lead):GS (q7 g):=Ay9 (h.reps _ (AE6 (BQ3 h hl))) _
theorem AS6 {g:C1}(h:GG g)(hl:0≤g.Lead):GS (Z8 g):=Ay9 (h.reps _ (AE6 (BQ3 h hl))) _
theorem AP9 {g:C1}(h:AX0 g=true):0≤g.Lead:=by
  unfold AX0 at h;rw[F0,H6]at h;exact h.1
structure StK (s:E1):Prop where
  cells:∀c∈s.Cells,c.Key∈AI5
  held:∀h∈s.Held,∀w∈h.Writes,w.Key∈AI5
theorem stk_zero :StK V0:=⟨fun c hc=>(by cases hc),fun h hh=>(by cases hh)⟩
theorem Ca8 {k:Str} {v:U0}:∀{l:List B8} {c:B8},c∈AK3 l k v→c.Key=k∨∃d∈l,d.Key=c.Key
  | [],c,h=>by
    unfold AK3 at h;rw[i6.1 h];exact .inl rfl
  | d ::l,c,h=>by
    unfold AK3 at h;split at h
    · rcases T6.1 h with rfl|h
      ·exact .inr ⟨c,n4,rfl⟩
      · rcases Ca8 h with e|⟨x,hx,e⟩
        ·exact .inl e
        ·exact .inr ⟨x,U5 _ hx,e⟩
    · split at h
      · rcases T6.1 h with rfl|h
        ·exact .inl rfl
        ·exact .inr ⟨c,U5 _ h,rfl⟩
      · rcases T6.1 h with rfl|h
        ·exact .inl rfl
        ·exact .inr ⟨c,h,rfl⟩
theorem Ca9 {t:Int}:∀{w:List B1} {l q:List B8},m8 l w t=some q→(∀c∈l,c.Key∈AI5)→(∀x∈w,x.Key∈AI5)→∀c∈q,c.Key∈AI5
  |[],l,q,e,hl,_=>by simp[m8]at e;subst e;exact hl
  | x ::w,l,q,e,hl,hw=>by
    unfold m8 at e;split at e
    ·cases e
    · refine Ca9 e (fun c hc=> ?_) fun y hy=>hw y (U5 _ hy)
      unfold AG3 at hc;rcases Ca8 hc with h|⟨d,hd,h⟩
      ·rw[h];exact hw x n4
      ·rw[←h];exact hl d hd
theorem Da2 {s:E1} (g:StK s) {r:N5} (hr:Ai7 r) (h:(Y2 s r).2=true):StK (Y2 s r).1:=by
  have hless:∀n,∀h∈AC2 s.Held n,∀w∈h.Writes,w.Key∈AI5:=fun n h hh=>g.held h (Ag0.1 hh).1;unfold Y2 at h⊢;by_cases h4:r.Kind=4
  ·rw[D9 h4];exact⟨g.cells,g.held⟩
  · rw[D0 h4]at h⊢
    by_cases hT:AU2 s.Told r.Txn=true
    ·rw[D9 hT]at h;cases h
    · rw[D0 hT]at h⊢
      by_cases h1:r.Kind=1
      · rw[D9 h1]
        refine⟨g.cells,fun x hx=> ?_⟩;rcases An4.1 hx with rfl|hx
        ·exact hr
        ·exact g.held x hx
      · rw[D0 h1]at h⊢
        by_cases hy:r.Yes=true
        · rw[D9 hy]at h⊢
          cases hf:AE1 s.Held r.Txn with
          |none=>rw[hf]at h;cases h
          | some k=>
            rw[hf]at h;dsimp only at h⊢;by_cases hlt:r.Time<k.Time
            ·rw[D9 hlt]at h;cases h
            · rw[D0 hlt]at h⊢
              by_cases hp:(AL8 s.Cells k.Writes r.Time).2=true
              · rw[D9 hp]
                obtain⟨p1,_⟩:=Bw2 hp;exact⟨Ca9 p1 g.cells (g.held k (Ap3 hf).1),hless _⟩
              ·rw[D0 hp]at h;cases h
        ·rw[D0 hy];exact⟨g.cells,hless _⟩
theorem stk_step {s:E1}(g:StK s){r:N5}(hr:Ai7 r):StK (AK9 s r):=by
  unfold AK9;split
  ·exact Da2 g hr ‹_›
  ·exact g
theorem Cr2 :∀{l:List N5} {s:E1},StK s→(∀r∈l,Ai7 r)→StK (Z2 s l)
  |[],s,g,_=>g
  | r::l,s,g,h=>by
    show StK (Z2 (AK9 s r) l)
    exact Cr2 (stk_step g (h r n4)) fun x hx=>h x (U5 _ hx)
theorem DQ5 {l:List F4}(h:∀e∈l,Ai7 e.Rec)(n:Nat):StK (Bd6 l n):=Cr2 stk_zero fun r hr=>by
  obtain⟨e,he,rfl⟩:=n6.1 hr;exact h e (AZ9 he)
theorem Da3 {g:C1}(h:GG g)(k:AQ4 Ai7 g):StK (Ai8 g):=DQ5 (k _ (Bw4 h)) _
def lookW (l:List B1)(k:Str):Option B1:=l.find? fun w=>w.Key==k
theorem CI8 {l:List B1}{k:Str}{w:B1}(h:lookW l k=some w):w∈l∧w.Key=k:=by
  unfold lookW at h;exact⟨Ac4 h,by simpa using List.find?_some h⟩
theorem DQ6 {l:List B1}{k:Str}(h:lookW l k=none):∀w∈l,w.Key≠k:=fun w hw e=>by
  have:=List.find?_eq_none.1 h w hw;simp[e]at this
theorem DK7 {x y:B1}:∀{l:List B1},l.Pairwise (fun a b=>X6 a b=true)→x∈l→y∈l→x.Key=y.Key→x=y
  |[],_,h,_,_=>by cases h
  | z ::l,hp,hx,hy,e=>by
    obtain⟨h1,h2⟩:=AD9.1 hp;rcases T6.1 hx with ex|hx'
    · rcases T6.1 hy with ey|hy'
      ·rw[ex,ey]
      ·exfalso;have:=h1 y hy';unfold X6 at this;rw[←ex,e,N9]at this;cases this
    · rcases T6.1 hy with ey|hy'
      ·exfalso;have:=h1 x hx';unfold X6 at this;rw[←ey,e,N9]at this;cases this
      ·exact DK7 h2 hx' hy' e
theorem Da4 {l:List B1}(ha:adj X6 l=true){w:B1}(hw:w∈l):lookW l w.Key=some w:=by
  cases h:lookW l w.Key with
  |none=>exact absurd rfl (DQ6 h w hw)
  | some x=>
    obtain⟨hx,hk⟩:=CI8 h;have hp:=(An1 AP7).1 ha;by_cases e:x=w
    ·rw[e]
    ·exact absurd (DK7 hp hx hw hk) e
def BB5 (g:H7):Bool:=z7 g.Key&&AL7 g.Val (!g.There)
def AX1 (p:List H7):List H7→Bool
  |[]=>true
  |g::l=>(BB5 g&& !(p.any fun h=>h.Key==g.Key))&&AX1 (p++[g]) l
def AN2 (l:List H7):Bool:=AX1 [] l&&decide ((l.length:Int)≤8)
def ahead (a b:Au2):Bool:=(a.End != -1)&&decide (a.End<b.Begin)
theorem CD3 {l:List B1}(h:adj X6 l=true)(hk:∀w∈l,w.Key∈AI5):l.length≤8:=by
  have h1:(l.map B1.Key).Nodup:=by
    have hp:=(An1 AP7).1 h;rw[List.nodup_iff_pairwise_ne,List.pairwise_map];exact hp.imp fun {a b} hab e=>by unfold X6 at hab;rw[e,N9]at hab;cases hab
  have:=CC8 h1 (b:=AI5) fun x hx=>by
    obtain⟨w,hw,rfl⟩:=n6.1 hx;exact hk w hw
  rw[A8]at this;exact this
def leS (c k:Str):Bool:=Op.bytesLess c k||c==k
theorem DK8 (c k:Str):leS c k= !Op.bytesLess k c:=by
  have:=Ba7 c k;unfold leS;rw[←this,Bool.not_not]
def w4 (l:List Str)(k:Str):Nat:=(l.filter fun c=>leS c k).length
def r4 (l:List Str)(k:Str):Nat:=(l.takeWhile fun c=>leS c k).length
def CF8 (l:List Str):Bool:=decide ((l.length:Int)<4)&&u4 l
def AB2 (l:List Str):Bool:=(l.all y7&&adj Op.bytesLess l)&&decide ((l.length:Int)<4)
theorem DC0 (l:List Str):CF8 l=AB2 l:=by
  unfold CF8 AB2 u4;rw[Bool.and_comm];congr 1;congr 1
  induction l with
  |nil=>rfl
  |cons x l ih=>rw[AA7,AA7,ih,AK7]
theorem Da5 {l:List Str}{k c:Str}(hs:∀d∈l,Op.bytesLess c d=true)(h:leS c k=false):w4 l k=0:=by
  unfold w4;rw[List.length_eq_zero_iff,List.filter_eq_nil_iff];intro d hd;rw[DK8]at h⊢;rw[AD1]at h;rw[U9 h (hs d hd)];decide
theorem CS9 {k:Str}:∀{l:List Str},(l.Pairwise fun a b=>Op.bytesLess a b=true)→w4 l k=r4 l k
  |[],_=>rfl
  | c ::l,hs=>by
    obtain⟨h1,h2⟩:=AD9.1 hs;have ih:=CS9 (k:=k) h2
    cases hc:leS c k with
    | true=>
      unfold w4 r4 at*;rw[List.filter_cons_of_pos (p:=fun c=>leS c k) hc,List.takeWhile_cons_of_pos (p:=fun c=>leS c k) hc,J7,J7,ih]
    | false=>
      have h3:=Da5 h1 hc;unfold w4 r4 at*;rw[List.filter_cons_of_neg (p:=fun c=>leS c k) (by rw[hc];decide),List.takeWhile_cons_of_neg (p:=fun c=>leS c k) (by rw[hc];decide),h3];rfl
theorem CD4 (l:List Str)(k:Str):r4 l k≤l.length:=(List.takeWhile_sublist _).length_le
theorem CD5 {k:Str}:∀{l:List Str} {i:Nat} {c:Str},l[i]? =some c→(i<r4 l k→leS c k=true)∧(i=r4 l k→leS c k=false)
  |[],i,c,h=>by simp at h
  | d ::l,i,c,h=>by
    unfold r4
    cases hd:leS d k with
    | true=>
      rw[List.takeWhile_cons_of_pos (p:=fun c=>leS c k) hd,J7]
      cases i with
      |zero=>simp at h;subst h;exact⟨fun _=>hd,fun e=>by omega⟩
      | succ i=>
        have ih:=CD5 (k:=k) (l:=l) (i:=i) (c:=c) Ag3;unfold r4 at ih;exact⟨fun hl=>ih.1 qz7,fun e=>ih.2 qz7⟩
    | false=>
      rw[List.takeWhile_cons_of_neg (p:=fun c=>leS c k) (by rw[hd];decide)];refine⟨fun hl=>by simp at hl,fun e=> ?_⟩;simp at e;subst e;simp at h;subst h;exact hd
def AP4 (l:List Str):Bool:=within (l.length:Int) 1 8&&u4 l
def AA4 (w:C7)(t:B5):Bool:=((((((n8 t.Ops&&decide (0<(t.Ops.length:Int)))&&AN2 t.Got)&&((t.Terms.length:Int)==(w.Groups.length:Int)))&&(t.Terms.all fun n=>within n 0 200))&&within t.Begin (-1) w.Count)&&within t.End (-1) w.Count)&&o0 t.Time
def AV0 (l:List H7)(ks:List Str):Bool:=(List.range l.length).all fun i=>match l[i]?,ks[i]? with
  |some g,some k=>g.Key==k
  |_,_=>false
def o4 (w:C7)(l:C5):Bool:=(((((((within l.Node 0 ((w.Clocks.length:Int)-1)&&AP4 l.Keys)&&decide ((l.Got.length:Int)≤(l.Keys.length:Int)))&&AN2 l.Got)&&AV0 l.Got l.Keys)&&o0 l.Time)&&within l.Begin (-1) w.Count)&&within l.End (-1) w.Count)
def AJ2 (w:C7):Bool:=((((decide ((w.Cuts.length:Int)≤2)&&AB2 w.Cuts)&&((w.Groups.length:Int)==(w.Cuts.length:Int)+1))&&((w.Locks.length:Int)==(w.Cuts.length:Int)+1))&&((w.Promised.length:Int)==(w.Cuts.length:Int)+1))&&((w.Clocks.length:Int)==3*((w.Cuts.length:Int)+1))
def Z4 (w:C7):Bool:=((((((((AJ2 w&&(w.Groups.all fun g=>P0 g&&((g.Reps.length:Int)==3)))&&w.Locks.all AU9)&&w.Promised.all o0)&&o0 w.Now)&&within w.Count 0 1000000)&&(decide ((w.Txns.length:Int)≤6)&&decide ((w.Looks.length:Int)≤4)))&&(w.Clocks.all fun c=>within c.Off (-5) 5))&&w.Txns.all (AA4 w))&&w.Looks.all (o4 w)
structure WD9 (w:C7):Prop where
  size:w.size≤1000000
  keys:∀g∈w.Groups,AQ4 Ai7 g
  ops:∀t∈w.Txns,∀o∈t.Ops,o.Key∈AI5
  ends:∀t∈w.Txns,t.End= -1∨t.Begin<t.End
  lends:∀l∈w.Looks,l.End= -1∨l.Begin<l.End
structure GW (w:C7):Prop where
  cuts:w.Cuts.length≤2∧AB2 w.Cuts=true
  groups:w.Groups.length=w.Cuts.length+1∧∀g∈w.Groups,GG g∧g.Reps.length=3
  locks:w.Locks.length=w.Cuts.length+1
  promised:w.Promised.length=w.Cuts.length+1
  clocks:w.Clocks.length=3*(w.Cuts.length+1)∧∀c∈w.Clocks, -5≤c.Off∧c.Off≤5
  now:0≤w.Now∧w.Now≤100000
  count:0≤w.Count∧w.Count≤1000000
  txns:w.Txns.length≤6∧∀t∈w.Txns,AA4 w t=true
  looks:w.Looks.length≤4∧∀l∈w.Looks,o4 w l=true
theorem Az0 {w:C7}(h:Z4 w=true):GW w:=by
  unfold Z4 AJ2 within o0 within at h
  simp only[F0,H6,V7,m6,o9]at h;obtain⟨⟨⟨⟨⟨⟨⟨⟨⟨⟨⟨⟨⟨⟨h1,h2⟩,h3⟩,h4⟩,h5⟩,h6⟩,h7⟩,h8⟩,h9⟩,h10⟩,h11⟩,h12⟩,h13⟩,h14⟩,h15⟩:=h;exact⟨⟨by omega,h2⟩,⟨by omega,fun g hg=>⟨(h7 g hg).1,by have:=(h7 g hg).2;omega⟩⟩,by omega,by omega,⟨by omega,h13⟩,h10,h11,⟨by omega,h14⟩,⟨by omega,h15⟩⟩
def goneW (k:Str):B1:=⟨k,[],true⟩
def As4 (ss:List E1):Prop:=∀s∈ss,o1 s.Cells=true
theorem Da6 {k:Str}(h:z7 k=true):AQ1 (goneW k)=true:=by
  unfold AQ1 Aq3 goneW;rw[←AK7];dsimp only;rw[h];rfl
def O6 (w:C7):List E1:=w.Groups.map Ai8
theorem itoa_val {n:Int} (h: -999999≤n∧n≤999999):AV3 (AA9 n)=true:=by
  unfold AV3;rw[CS0,F0,H6];refine⟨by have:=Ca7 h;omega,?_⟩;unfold Ae6;refine V7.2 fun c hc=> ?_;by_cases hd:(c.toNat<48∨57<c.toNat)∧c≠45
  ·exact absurd hc (itoa_no hd)
  · rw[AC0]
    by_cases h45:c=45
    ·right;subst h45;decide
    · left
      have h1:48≤c.toNat∧c.toNat≤57:=by
        by_cases h1:c.toNat<48∨57<c.toNat
        ·exact absurd ⟨h1,h45⟩ hd
        ·omega
      unfold Ar9;simp;omega
theorem DQ7 {o:TOp} {v:Str} {t:Bool} {buf:List B1} (ho:BB2 o=true) (hg:w8 o v t=false) (h:∀w∈buf,AQ1 w=true):∀w∈V9 o v t buf,AQ1 w=true:=by
  have ho2:=ho;unfold BB2 at ho2;simp only[F0]at ho2;obtain⟨⟨⟨⟨⟨a1,a2⟩,a3⟩,a4⟩,a5⟩,a6⟩:=ho2;have hby: -10000≤o.By∧o.By≤10000:=by unfold within at a5;simp at a5;omega
  have hst:∀s:Str,AV3 s=true→AQ1 ⟨o.Key,s,false⟩=true:=fun s hs=>by
    unfold AQ1 Aq3;dsimp only;rw[←AK7,a2,←Bg6,hs];rfl
  unfold V9;split
  · intro w hw
    rcases Ad7 hw with rfl|hw
    ·exact hst _ a3
    ·exact h w hw
  · split
    · intro w hw
      rcases Ad7 hw with rfl|hw
      ·exact Da6 a2
      ·exact h w hw
    · split
      · rename_i h2 h3 h4
        intro w hw;rcases Ad7 hw with rfl|hw
        ·exact hst _ (itoa_val (Ay8 h4 hby hg))
        ·exact h w hw
      ·exact h
theorem Bk8 {got:List H7}:∀{l:List TOp} {buf:List B1},(∀o∈l,BB2 o=true)→(∀w∈buf,AQ1 w=true)→∀w∈(m2 got buf l).2.2,AQ1 w=true
  |[],buf,_,hb=>hb
  | o ::l,buf,ho,hb=>by
    unfold m2;split
    ·intro w hw;cases hw
    · split
      ·intro w hw;cases hw
      · rename_i hk hg
        rw[Bool.not_eq_true]at hg;exact Bk8 (fun x hx=>ho x (U5 _ hx)) (DQ7 (ho o n4) hg hb)
theorem Cb0 {l:List TOp}{got:List H7}(h:n8 l=true):AI3 (P2 l got).2.2=true:=by
  have h1:=ran (got:=got) (n:=36) E5 (AT6 h);have h2:l.length≤8:=by have h9:=h;unfold n8 at h9;rw[F0,H6]at h9;have:=h9.1;omega
  have h3:∀w∈(P2 l got).2.2,AQ1 w=true:=Bk8 (got:=got) (buf:=[]) (CI7 h) fun w hw=>by cases hw
  have h4:=h1.len;rw[At3];unfold Ac1;rw[h1.adj,V7.2 h3,W6 qz7];rfl
def P8 (ss:List E1)(n:Int):List H2:=ss.filterMap fun s=>AD3 s.Told n
structure EndsOk (w:C7):Prop where
  txns:∀t∈w.Txns,t.End= -1∨t.Begin<t.End
  looks:∀l∈w.Looks,l.End= -1∨l.Begin<l.End
def gotT (g:H7):Str:=32::(g.Key++63::(if g.There=true then g.Val else [45]))
def wrT (x:B1):Str:=32::(x.Key++(if x.Gone=true then [45]else 61::x.Val))
def headT (d:Au2):Str:=(if d.Look=true then 108 else 116)::(AA9 d.Txn++32::(AA9 d.Begin++45::((if d.End= -1 then [63]else AA9 d.End)++(if d.Yes=true then 32::64::AA9 d.Time else [32,110,111]))))
theorem Bh8 :∀{l p:List H7},AX1 p l=true→∀g∈l,BB5 g=true
  |[],_,_,_,h=>by cases h
  | x::l,p,hg,g,h=>by
    unfold AX1 at hg;rw[F0,F0]at hg;rcases T6.1 h with rfl|h
    ·exact hg.1.1
    ·exact Bh8 hg.2 g h
theorem An6 {ss:List E1}{n:Int}{i:Nat}{s:E1}(h:ss[i]? =some s):P8 (ss.take (i+1)) n=P8 (ss.take i) n++(AD3 s.Told n).toList:=by
  unfold P8;rw[X3,h,List.filterMap_append];congr 1
theorem BY9 {ss:List E1}{n:Int}:(P8 ss n).length≤ss.length:=List.length_filterMap_le _ _
def Bk1 (l:List B1):Prop:=∀w∈l,w.Gone=true→w.Val=[]
def BI2 (l:List H7):Prop:=∀g∈l,g.There=false→g.Val=[]
theorem calm_nil :Bk1 []:=fun w hw=>by cases hw
theorem l5N_nil :(l5N []).1=0:=by decide
theorem DC1 {buf:List B1}{got:List H7}{k:Str}(hb:Bk1 buf)(hg:BI2 got)(h:(C9 buf got k).2.1=false):(C9 buf got k).1=[]:=by
  unfold C9 at h⊢;split
  · rename_i w hw
    rw[hw]at h;exact hb w (Ac4 hw) Ag3
  · rename_i hw
    rw[hw]at h;dsimp only at h⊢;split
    · rename_i g hg2
      rw[hg2]at h;exact hg g (Ac4 hg2) Ag3
    ·rfl
theorem CI9 {o:TOp}{buf:List B1}{got:List H7}{k:Str}(hb:Bk1 buf)(hg:BI2 got):BT9 o (C9 buf got k).1 (C9 buf got k).2.1=(l5N (C9 buf got k).1).1+o.By:=by
  unfold BT9
  cases h:(C9 buf got k).2.1 with
  |true=>rw[D9 rfl]
  |false=>rw[D0 E5,DC1 hb hg h,l5N_nil]
theorem BN6 {o:TOp} {v:Str} {t:Bool} {buf:List B1} (h:Bk1 buf):Bk1 (V9 o v t buf):=by
  unfold V9;split
  · intro w hw
    rcases Ad7 hw with rfl|hw
    ·intro e;cases e
    ·exact h w hw
  · split
    · intro w hw
      rcases Ad7 hw with rfl|hw
      ·intro _;rfl
      ·exact h w hw
    · split
      · intro w hw
        rcases Ad7 hw with rfl|hw
        ·intro e;cases e
        ·exact h w hw
      ·exact h
theorem Bp6 {l:List H7}(h:AN2 l=true):BI2 l:=fun g hg ht=>by
  unfold AN2 at h;rw[F0]at h;have h1:=Bh8 h.1 g hg;unfold BB5 AL7 at h1;rw[ht]at h1;simp only[F0,Bool.not_false,Bool.not_true,Bool.false_or]at h1;have h2:=h1.2.2;simpa using h2
def AS9 (o:TOp)(val:Str)(there:Bool):Bool:= !w8 o val there
theorem holds4 {o:TOp}{v:Str}{t:Bool}(h:o.Kind=4):AS9 o v t=(!t||((l5N v).2&&within ((l5N v).1+o.By) (-999999) 999999)):=by
  unfold AS9 w8;rw[D9 h]
  cases t<;>cases (l5N v).2<;>cases within ((l5N v).1+o.By) (-999999) 999999<;>rfl
theorem holds5 {o:TOp}{v:Str}{t:Bool}(h:o.Kind=5):AS9 o v t=((t&&(l5N v).2)&&decide (o.By≤(l5N v).1)):=by
  unfold AS9 w8;rw[D0 qz7,D9 h];by_cases hb:(l5N v).1<o.By
  ·rw[W6 hb,AC1 qz7];simp
  ·rw[AC1 hb,W6 qz7];cases t<;>cases (l5N v).2<;>rfl
theorem holds6 {o:TOp}{v:Str}{t:Bool}(h:o.Kind=6):AS9 o v t= !t:=by
  unfold AS9 w8;rw[D0 qz7,D0 qz7,D9 h]
theorem holds7 {o:TOp}{v:Str}{t:Bool}(h:o.Kind=7):AS9 o v t=(t&&(v==o.Val)):=by
  unfold AS9 w8;rw[D0 qz7,D0 qz7,D0 qz7,D9 h]
  cases t<;>simp[bne]
theorem holds0 {o:TOp}{v:Str}{t:Bool}(h:o.Kind≠4∧o.Kind≠5∧o.Kind≠6∧o.Kind≠7):AS9 o v t=true:=by
  unfold AS9 w8;rw[D0 h.1,D0 h.2.1,D0 h.2.2.1,D0 h.2.2.2];rfl
theorem Cb1 {got:List H7}{buf:List B1}{o:TOp}{l:List TOp}(h:o.Kind=2∨o.Kind=3):m2 got buf (o::l)=m2 got (V9 o (C9 buf got o.Key).1 (C9 buf got o.Key).2.1 buf) l:=by
  have h1:asks o (C9 buf got o.Key)=false:=by unfold asks;rcases h with h|h<;>rw[h]<;>simp
  have h2:w8 o (C9 buf got o.Key).1 (C9 buf got o.Key).2.1=false:=by
    unfold w8;rw[D0 qz7,D0 qz7,D0 qz7,D0 qz7]
  conv=>lhs;unfold m2
  rw[D0 (by rw[h1];decide),D0 (by rw[h2];decide)]
theorem Da7 {got:List H7}{buf:List B1}{o:TOp}{l:List TOp}(h2:o.Kind≠2)(h3:o.Kind≠3)(hk:(C9 buf got o.Key).2.2=false):m2 got buf (o::l)=(1,o.Key,[]):=by
  have h1:asks o (C9 buf got o.Key)=true:=by unfold asks;rw[hk];simp[h2,h3]
  unfold m2;rw[D9 h1]
theorem DQ8 {got:List H7}{buf:List B1}{o:TOp}{l:List TOp}(hk:(C9 buf got o.Key).2.2=true)(hh:AS9 o (C9 buf got o.Key).1 (C9 buf got o.Key).2.1=false):m2 got buf (o::l)=(2,[],[]):=by
  have h1:asks o (C9 buf got o.Key)=false:=by unfold asks;rw[hk];simp
  unfold AS9 at hh;unfold m2;rw[D0 (by rw[h1];decide),D9 (by simpa using hh)]
theorem stepI_on {got:List H7}{buf:List B1}{o:TOp}{l:List TOp}(hk:(C9 buf got o.Key).2.2=true)(hh:AS9 o (C9 buf got o.Key).1 (C9 buf got o.Key).2.1=true):m2 got buf (o::l)=m2 got (V9 o (C9 buf got o.Key).1 (C9 buf got o.Key).2.1 buf) l∧w8 o (C9 buf got o.Key).1 (C9 buf got o.Key).2.1=false:=by
  have h1:asks o (C9 buf got o.Key)=false:=by unfold asks;rw[hk];simp
  have h2:w8 o (C9 buf got o.Key).1 (C9 buf got o.Key).2.1=false:=by unfold AS9 at hh;simpa using hh
  refine⟨?_,h2⟩;conv=>lhs;unfold m2
  rw[D0 (by rw[h1];decide),D0 (by rw[h2];decide)]
theorem Cb2 {o:TOp}{v:Str}{t:Bool}(h:o.Kind=2∨o.Kind=3):w8 o v t=false:=by
  unfold w8;rw[D0 qz7,D0 qz7,D0 qz7,D0 qz7]
theorem opPut2 {o:TOp}{v:Str}{t:Bool}{buf:List B1}(h:o.Kind=2):V9 o v t buf=ins buf ⟨o.Key,o.Val,false⟩:=by unfold V9;rw[D9 h]
theorem opPut3 {o:TOp}{v:Str}{t:Bool}{buf:List B1}(h:o.Kind=3):V9 o v t buf=ins buf ⟨o.Key,[],true⟩:=by unfold V9;rw[D0 qz7,D9 h]
theorem opPut4 {o:TOp}{buf:List B1}{got:List H7}{k:Str}(hb:Bk1 buf)(hg:BI2 got)(h:o.Kind=4):V9 o (C9 buf got k).1 (C9 buf got k).2.1 buf=ins buf ⟨o.Key,AA9 ((l5N (C9 buf got k).1).1+o.By),false⟩:=by
  unfold V9;rw[D0 qz7,D0 qz7,D9 h,CI9 hb hg]
theorem opPut0 {o:TOp}{v:Str}{t:Bool}{buf:List B1}(h2:o.Kind≠2)(h3:o.Kind≠3)(h4:o.Kind≠4):V9 o v t buf=buf:=by unfold V9;rw[D0 h2,D0 h3,D0 h4]
def AG4 (l:List H2):List H2×Bool:=if (l.all fun t=>decide (l[0]? =some t))=true then (l,true)else ([],false)
theorem Da8 {l:List H2}{i:Nat}{x y:H2}(h0:l[0]? =some x)(hi:l[i]? =some y)(hne:y≠x):AG4 l=([],false):=by
  unfold AG4;refine D0 fun h=> ?_;have h1:=V7.1 h y (C3 hi);rw[H6,h0]at h1;injection h1 with h1
  exact hne h1.symm
theorem sameL_ok {l:List H2}(h:∀(j:Nat) (y:H2),l[j]? =some y→l[0]? =some y):AG4 l=(l,true):=by
  unfold AG4;refine D9 (V7.2 fun y hy=> ?_);obtain⟨j,hj⟩:=i5 hy;exact W6 (h j y hj)
theorem CT0 (a b:H2):(!(a.Txn==b.Txn&&(a.Yes==b.Yes&&(a.Time==b.Time&&true))))= !decide (a=b):=by
  congr 1
  cases a;cases b
  rw[AI1];simp only[F0,m6,H6,H2.mk.injEq,and_true]
theorem Cr3 {l:List H7}(h:AN2 l=true):l.length≤8∧∀g∈l,g.size≤36:=by
  have h9:=h;unfold AN2 at h9;rw[F0,H6]at h9;refine⟨by omega,fun g hg=> ?_⟩;have h1:=Bh8 h9.1 g hg;unfold BB5 at h1;rw[F0]at h1;have h2:=Bo7 h1.1;have h3:g.Val.length≤24:=by
    have h4:=h1.2;rw[BG9,F0]at h4;have h5:=h4.1;unfold AU1 at h5;rw[F0,H6]at h5;omega
  unfold H7.size;omega
def kindT (d:Au2):Str:=if d.Look=true then [108]else [116]
def endT (d:Au2):Str:=if d.End= -1 then [63]else AA9 d.End
def timeT (d:Au2):Str:=if d.Yes=true then 32::64::AA9 d.Time else [32,110,111]
def valT (g:H7):Str:=if g.There=true then g.Val else [45]
def wvT (w:B1):Str:=if w.Gone=true then [45]else 61::w.Val
structure TxLens (d:Au2):Prop where
  txn:(AA9 d.Txn).length≤7
  begin':(AA9 d.Begin).length≤7
  kind:(kindT d).length=1
  end':(endT d).length≤7
  time:(timeT d).length≤9
  head:(headT d).length≤40
  head0:0<(headT d).length
  gotK:∀g∈d.Got,g.Key.length≤12∧(valT g).length≤24∧(gotT g).length≤40
  wrK:∀w∈d.Writes,w.Key.length≤12∧w.Val.length≤24∧(wvT w).length≤25∧(wrT w).length≤40
  few:d.Got.length≤8∧d.Writes.length≤24
def Z5 (ss:List E1)(p:Nat):E1:=ss[p]?.getD default
def CP0 (s:E1)(k:Str)(t:Int):H7:=⟨k,(cellAt s.Cells k t).1,(cellAt s.Cells k t).2⟩
def r6 (cuts:List Str)(ss:List E1)(got:List H7)(t:Int):List H7:=got.map fun g=>CP0 (Z5 ss (w4 cuts g.Key)) g.Key t
def BU0 (cuts:List Str)(ss:List E1)(t:Int)(g:H7):Bool:= !(((cellAt (Z5 ss (w4 cuts g.Key)).Cells g.Key t).2 !=g.There)||((cellAt (Z5 ss (w4 cuts g.Key)).Cells g.Key t).2&&((cellAt (Z5 ss (w4 cuts g.Key)).Cells g.Key t).1 !=g.Val)))
def Ac6 (cuts:List Str)(ss:List E1)(got:List H7)(t:Int):Bool:=got.all (BU0 cuts ss t)
def CalmC (l:List B8):Prop:=∀c∈l,∀v∈c.Vers,v.Gone=true→v.Val=[]
theorem DQ9 {l:List B8}(h:o1 l=true):CalmC l:=fun c hc v hv hg=>by
  unfold o1 at h;rw[F0,V7]at h;have h1:=h.1 c hc;unfold Ai5 at h1;simp only[F0,V7]at h1;have h2:=h1.1.1 v hv;unfold AV4 AL7 at h2;simp only[F0,n5,Bool.and_eq_false_iff]at h2;have h3:=h2.2.2;rw[hg]at h3;simpa using h3
theorem Cr4 {c:B8}{t:Int}(hc:∀v∈c.Vers,v.Gone=true→v.Val=[])(h:(AE3 c t).2=false):(AE3 c t).1=[]:=by
  unfold AE3 at h⊢
  cases hf:c.Vers.reverse.find? (fun v=>decide (v.Time≤t))with
  |none=>rfl
  | some v=>
    rw[hf]at h;have hm:=Ac4 hf;exact hc v (by simpa using hm) Ag3
theorem DC2 {l:List B8}{k:Str}{t:Int}(hc:CalmC l)(h:(cellAt l k t).2=false):(cellAt l k t).1=[]:=by
  unfold cellAt at h⊢
  cases hf:o6 l k with
  |none=>rfl
  |some c=>rw[hf]at h;exact Cr4 (hc c (Bp5 hf).1) h
theorem Da9 {ss:List E1}(h:As4 ss)(p:Nat):CalmC (Z5 ss p).Cells:=by
  unfold Z5
  cases hs:ss[p]? with
  |some s=>exact DQ9 (h s (C3 hs))
  |none=>intro c hc;cases hc
theorem Bh9 {cuts:List Str} {ss:List E1} {t:Int} (hss:As4 ss):∀{got:List H7},BI2 got→decide (r6 cuts ss got t=got)=Ac6 cuts ss got t
  |[],_=>rfl
  | g ::got,hc=>by
    have ih:=Bh9 (cuts:=cuts) (ss:=ss) (t:=t) hss (got:=got) fun x hx=>hc x (U5 _ hx);have h1:=hc g n4;have h2:=DC2 (l:=(Z5 ss (w4 cuts g.Key)).Cells) (k:=g.Key) (t:=t) (Da9 hss _);unfold r6 Ac6 at ih⊢;rw[m4,AA7,←ih,AI1];simp only[H6,F0,List.cons.injEq];refine and_congr_left fun _=> ?_;unfold BU0 CP0;obtain⟨v,b,hvb⟩:∃v b,cellAt (Z5 ss (w4 cuts g.Key)).Cells g.Key t=(v,b):=⟨_,_,rfl⟩;rw[hvb]at h2⊢
    cases g with
    | mk gk gv gt=>
      dsimp only at h1 h2⊢
      cases b with
      |true=>cases gt<;>simp
      | false=>
        rw[h2 rfl]
        cases gt with
        |true=>simp
        |false=>simp[h1 rfl]
def okI (n:Int)(i:Nat)(s:E1):Bool:=((toldFI s.Told n).2&&(toldFI s.Told n).1.Yes)||(decide (i≠0)&&AO2 s.Held n)
where toldFI (l:List H2) (n:Int):H2×Bool:=match AD3 l n with|some h=>(h,true)|none=>(⟨0,false,0⟩,false)
def okS (n:Int)(s:E1):Bool:=(AD3 s.Told n).isSome||AO2 s.Held n
def Av5 (ss:List E1)(n:Int)(parts:List Int):Bool:=(List.range parts.length).all fun i=>okI n i (Z5 ss (parts.getD i 0).toNat)
def AX2 (ss:List E1)(n:Int)(parts:List Int):Bool:=(AD3 (Z5 ss (parts.getD 0 0).toNat).Told n).isSome&&parts.all fun p=>okS n (Z5 ss p.toNat)
def AU5 (l:List H2):List H2:=l.filter H2.Yes
def BP2 (w:C7)(ss:List E1)(k:Nat)(t:B5):Bool:=
  if (decide (t.End<0)|| !t.Yes)=true then true
  else (((AU5 (P8 ss ((k:Int)+1))).any fun x=>x.Time==t.Time)&&decide (w.Now>t.Time))&&decide (r6 w.Cuts ss t.Got (t.Time-1)=t.Got)
def Aa8 (w:C7)(ss:List E1)(k:Nat)(t:B5)(parts:List Int)(done:Bool):Bool:=
  if (AG4 (P8 ss ((k:Int)+1))).2=false then false
  else if (((t.Put&&done)&&decide (0<((AU5 (P8 ss ((k:Int)+1))).length:Int)))&& !Av5 ss ((k:Int)+1) parts)=true then false
  else BP2 w ss k t
def Bd7 (l:List H2)(x:H2):Bool:=match l with|[]=>false|y::_=>decide (y=x)
def Aj8 (l:List H2):Bool:=match l with|[]=>false|y::_=>y.Yes
def BX3 (w:C7)(ss:List E1)(k:Nat)(t:B5):Bool:=
  if (decide (t.End<0)|| !t.Yes)=true then true
  else (Bd7 (P8 ss ((k:Int)+1)) ⟨(k:Int)+1,true,t.Time⟩&&decide (w.Now>t.Time))&&Ac6 w.Cuts ss t.Got (t.Time-1)
def BB6 (w:C7)(ss:List E1)(k:Nat)(t:B5)(parts:List Int)(done:Bool):Bool:=
  if (AG4 (P8 ss ((k:Int)+1))).2=false then false
  else if (((t.Put&&done)&&Aj8 (P8 ss ((k:Int)+1)))&& !AX2 ss ((k:Int)+1) parts)=true then false
  else BX3 w ss k t
theorem Db0 {l:List H2}{n:Int}{x:H2}(h:AD3 l n=some x):x.Txn=n:=by
  unfold AD3 at h;have:=List.find?_some h;simpa using this
theorem DC3 {ss:List E1}{n:Int}{s:E1}{x:H2}(hs:s∈ss)(h:AD3 s.Told n=some x):x∈P8 ss n:=List.mem_filterMap.2 ⟨s,hs,h⟩
theorem DC4 {ss:List E1}{n:Int}{x:H2}(h:x∈P8 ss n):x.Txn=n:=by
  obtain⟨s,_,e⟩:=List.mem_filterMap.1 h;exact Db0 e
theorem CD6 {l:List H2}{x:H2}{r:List H2}(h:(AG4 l).2=true)(hl:l=x::r):∀y∈l,y=x:=by
  unfold AG4 at h;split at h
  · rename_i hc
    subst hl;intro y hy;have h1:=V7.1 hc y hy;simp only[BG0,H6,Option.some.injEq]at h1;exact h1.symm
  ·cases h
theorem stAt_in {ss:List E1}{p:Nat}{n:Int}{x:H2}(hd:(default:E1).Told=[])(h:AD3 (Z5 ss p).Told n=some x):Z5 ss p∈ss:=by
  unfold Z5 at h⊢
  cases hs:ss[p]? with
  |some s=>exact C3 hs
  | none=>
    rw[hs]at h;simp only[Option.getD_none]at h;rw[hd]at h;cases h
theorem Cr5 :(default:E1).Told=[]:=rfl
theorem Cr6 {ss:List E1}{n:Int}{i p:Nat}(hy:∀x∈P8 ss n,x.Yes=true):okI n i (Z5 ss p)=((AD3 (Z5 ss p).Told n).isSome||(decide (i≠0)&&AO2 (Z5 ss p).Held n)):=by
  unfold okI okI.toldFI
  cases h:AD3 (Z5 ss p).Told n with
  |none=>rfl
  |some x=>rw[show x.Yes=true from hy x (DC3 (stAt_in Cr5 h) h)];rfl
theorem parts_eq {ss:List E1}{n:Int}{parts:List Int}(hp:0<parts.length)(hy:∀x∈P8 ss n,x.Yes=true):Av5 ss n parts=AX2 ss n parts:=by
  unfold Av5 AX2;rw[AI1,V7,F0,V7];constructor
  · intro h
    have h0:=h 0 (List.mem_range.2 hp);rw[Cr6 hy]at h0;have h00:(AD3 (Z5 ss (parts.getD 0 0).toNat).Told n).isSome=true:=by simpa using h0
    refine⟨h00,fun p hpm=> ?_⟩;obtain⟨i,hi⟩:=i5 hpm;have h1:=h i (List.mem_range.2 (G1.1 hi).1);rw[Cr6 hy,show parts.getD i 0=p by rw[List.getD_eq_getElem?_getD,hi];rfl]at h1;unfold okS;rw[AC0]at h1⊢;rcases h1 with h1|h1
    ·exact .inl h1
    ·rw[F0]at h1;exact .inr h1.2
  · rintro ⟨h0,h1⟩ i hi
    have hi':=List.mem_range.1 hi;rw[Cr6 hy];by_cases hz:i=0
    ·subst hz;rw[h0];rfl
    · have h2:=h1 parts[i] (List.getElem_mem hi')
      unfold okS at h2;rw[show parts.getD i 0=parts[i] by rw[List.getD_eq_getElem?_getD,Q5 hi'];rfl];rw[AC0]at h2⊢;rcases h2 with h2|h2
      ·exact .inl h2
      ·exact .inr (by rw[h2];simp[hz])
theorem yes_head {l:List H2}(h:(AG4 l).2=true):decide (0<((AU5 l).length:Int))=Aj8 l:=by
  cases l with
  |nil=>rfl
  | cons x r=>
    have ha:=CD6 h rfl;unfold Aj8 AU5
    cases hx:x.Yes with
    |true=>rw[List.filter_cons_of_pos hx];simp;omega
    | false=>
      rw[List.filter_eq_nil_iff.2 fun y hy=>by rw[ha y hy,hx];decide];show decide (0<(([]:List H2).length:Int))=x.Yes
      rw[hx];rfl
theorem tail_eq {w:C7} {ss:List E1} {k:Nat} {t:B5} (hss:As4 ss) (hs:(AG4 (P8 ss ((k:Int)+1))).2=true) (hc:BI2 t.Got):BP2 w ss k t=BX3 w ss k t:=by
  unfold BP2 BX3;rw[Bh9 hss hc];congr 1;congr 1;congr 1
  cases hl:P8 ss ((k:Int)+1)with
  |nil=>rfl
  | cons x r=>
    rw[hl]at hs;have ha:=CD6 hs rfl;have hx:x.Txn=(k:Int)+1:=DC4 (ss:=ss) (by rw[hl];exact n4);unfold Bd7 AU5;rw[AI1,List.any_eq_true,H6];constructor
    · rintro ⟨y,hy,ht⟩
      rw[List.mem_filter]at hy;have hyx:=ha y hy.1;rw[hyx]at hy ht
      cases x with
      | mk a b c=>
        have e1:b=true:=hy.2;have e2:c=t.Time:=by simpa using ht
        have e3:a=(k:Int)+1:=hx;rw[e1,e2,e3]
    · intro e
      exact⟨x,List.mem_filter.2 ⟨n4,by rw[e]⟩,by rw[e];simp⟩
theorem sound_eq {w:C7} {ss:List E1} {k:Nat} {t:B5} {parts:List Int} {done:Bool} (hss:As4 ss) (hc:BI2 t.Got) (hp:done=true→0<parts.length):Aa8 w ss k t parts done=BB6 w ss k t parts done:=by
  unfold Aa8 BB6
  cases hs:(AG4 (P8 ss ((k:Int)+1))).2 with
  |false=>rw[D9 rfl,D9 rfl]
  | true=>
    rw[D0 (show ¬(true=false) by decide),D0 (show ¬(true=false) by decide),yes_head hs,tail_eq hss hs hc]
    cases hd:done with
    |false=>rw[Bool.and_false,Bool.false_and,Bool.false_and];rfl
    | true=>
      cases hh:Aj8 (P8 ss ((k:Int)+1))with
      |false=>rw[Bool.and_false,Bool.false_and];rfl
      | true=>
        rw[parts_eq (hp hd) fun x hx=> ?_]
        cases hl:P8 ss ((k:Int)+1)with
        |nil=>rw[hl]at hx;cases hx
        | cons y r=>
          rw[hl]at hs hh hx;rw[CD6 hs rfl x hx];exact hh
def AQ5 (l p:List F4):Bool:=decide (p.length≤l.length)&&decide (l.take p.length=p)
def AN3 (r:D8):List F4:=r.Log.take r.Sure.toNat
def Ac7 (g:C1):Bool:=P0 g&&g.Reps.all fun a=>(g.Reps.all fun b=>AQ5 (AN3 a) (AN3 b)||AQ5 (AN3 b) (AN3 a))&&(decide (g.Lead<0)||AQ5 (M3 g g.Lead).Log (AN3 a))
def Aq5 (g:C1):Bool:=P0 g&&g.Reps.all fun a=>(g.Reps.all fun b=>AC4 a.Log b.Log (min a.Sure b.Sure).toNat)&&(decide (g.Lead<0)||AC4 (M3 g g.Lead).Log a.Log a.Sure.toNat)
theorem Db1 {a b:List F4}{n m:Nat}(hn:n≤a.length)(hm:m≤b.length):(AQ5 (a.take n) (b.take m)||AQ5 (b.take m) (a.take n))=AC4 a b (min n m):=by
  have la:(a.take n).length=n:=by rw[H0];omega
  have lb:(b.take m).length=m:=by rw[H0];omega
  unfold AQ5 AC4;rw[la,lb,AI1];simp only[AC0,F0,H6,List.take_take];constructor
  · rintro (⟨h1,h2⟩|⟨h1,h2⟩)
    · rw[Nat.min_eq_left h1]at h2
      rw[Nat.min_eq_right h1];exact⟨by omega,by omega,h2⟩
    · rw[Nat.min_eq_left h1]at h2
      rw[Nat.min_eq_left h1];exact⟨by omega,by omega,h2.symm⟩
  · rintro ⟨h1,h2,h3⟩
    by_cases h:n≤m
    · right
      rw[Nat.min_eq_left h]at h3;exact⟨h,by rw[Nat.min_eq_left h];exact h3.symm⟩
    · left
      have h':m≤n:=by omega
      rw[Nat.min_eq_right h']at h3;exact⟨h',by rw[Nat.min_eq_left h'];exact h3⟩
theorem pref_log {l a:List F4}{n:Nat}(hn:n≤a.length):AQ5 l (a.take n)=AC4 l a n:=by
  have la:(a.take n).length=n:=by rw[H0];omega
  unfold AQ5 AC4;rw[la,AI1];simp only[F0,H6];exact⟨fun h=>⟨h.1,hn,h.2⟩,fun h=>⟨h.1,h.2.2⟩⟩
theorem Az1 {α:Type}{p q:α→Bool}{l:List α}(h:∀x∈l,p x=q x):l.all p=l.all q:=by
  rw[AI1,V7,V7];exact⟨fun k x hx=>by rw[←h x hx];exact k x hx,fun k x hx=>by rw[h x hx];exact k x hx⟩
theorem safe_eq (g:C1):Ac7 g=Aq5 g:=by
  unfold Ac7 Aq5
  cases hg:P0 g with
  |false=>rfl
  | true=>
    have gg:=o9.1 hg;rw[Bool.true_and,Bool.true_and];refine Az1 fun a ha=> ?_;have h1:=(gg.reps a ha).sure;congr 1
    · refine Az1 fun b hb=> ?_
      have h2:=(gg.reps b hb).sure;unfold AN3;rw[Db1 qz7 qz7];congr 1;omega
    · unfold AN3
      rw[pref_log qz7]
end Go.M
namespace Go.PQ
open Go.Proofs Go.Proofs.Tryz
open Go Go.AV Go.M
attribute [local irreducible] OpW OpA OpS AWP J6 L6 K4 L0 Le Ev G4
@[reducible] def D6 (f:FuncId)(xs:List AV)(y:AV):Prop:=J6 Tryz.prog f xs y
@[reducible] def M0 (f:FuncId)(xs:List AV)(ow:List Go.AV.Own){α:Type}(ok:α→Prop)(O:α→List Go.AV.Own)(V:α→AV):Prop:=K3 Tryz.prog f xs ow ok O V
theorem Z0 (a b c:Int):D6 29 [AV.int a,AV.int b,AV.int c] (AV.bool (within a b c)):=by
  refine B0 func29 rfl ntmps29 rfl ?_;refine R17 ?_;exact zq16
theorem T7 (a b c:Int):D6 87 [AV.int a,AV.int b,AV.int c] (AV.bool (within a b c)):=by
  refine B0 func87 rfl ntmps87 rfl ?_;refine R17 ?_;exact zq16
theorem DC5 (c:UInt8):D6 292 [AV.byte c] (AV.bool (Ar9 c)):=by
  refine B0 func292 rfl ntmps292 rfl ?_;refine R23 ?_;exact zq16
theorem idxB_ext (s:Str)(c:UInt8):L6 Tryz.prog 361 [AV.str s,AV.byte c] (AV.int (Bj8 s c)):=espec_mk fun R w vs h=>by
  obtain⟨v,u,rfl,h1,h2⟩:=denV_two h;have e1:v= .string ⟨s.toArray⟩:=h1;have e2:u= .int .u8 c.toNat:=h2;subst e1;subst e2;refine⟨.int .i64 (Bj8 s c),?_,rfl⟩;rw[run_callFunc_indexByte func361 E3 E3 E3 E3,run_indexByte_string];simp[Bj8]
theorem DR0 (s:Str)(c:UInt8):D6 333 [AV.str s,AV.byte c] (AV.int (Bj8 s c)):=by
  refine B0 func333 rfl ntmps333 rfl ?_;refine R8 ?_;refine A1 rfl (w_ext rfl rfl (idxB_ext _ _) F3) ?_;exact zq158
theorem Db2 (s:Str)(c:UInt8):D6 293 [AV.str s,AV.byte c] (AV.int (Bj8 s c)):=by
  refine B0 func293 rfl ntmps293 rfl ?_;refine R8 ?_;refine zF rfl call333 (DR0 _ _) F3 ?_;exact zq158
theorem Cb3 (s o:Str)(hs:s.length≤4611686018427387904):D6 234 [AV.str s,AV.str o] (AV.bool (hasB s o)):=by
 refine B0 func234 rfl ntmps234 rfl ?_;refine R12 ?_;refine E8 [(0,_),(1,_),(7,_)] _ (fun (i:Nat)=>i≤s.length∧hasB s o=hasB (s.drop i) o) (fun i=>[]) (fun i=>[(8,AV.int i)]) (fun i=>s.length-i) (0) ?_ (G2 A6) ?_
 ·exact zq4
 intro i hinv;refine zK ?_ ?_
 ·intro h9 k9;have hlt:i<s.length:=by have:=AB7 h9;omega
  obtain⟨c,hc⟩:=B2 hlt;refine R12 ?_;refine A1 rfl (Ad2 rfl P6 zA zA qz1 AI6) ?_;refine zF rfl call292 (DC5 _) G6 ?_;refine R5 ?_;refine L5 rfl (fun hc=>Ad2 rfl P6 (A7 rfl hc) (A7 rfl hc) qz6 AI6) ?_;refine L5 rfl (fun hc=>zG rfl call293 (Db2 _ _) zS) ?_;refine zC ?_ ?_
  ·intro h23;have hfin:hasB s o=false:=by rw[hinv.2,J8 hc,CZ2,h23];rfl
   refine R5 ?_;exact D1 rfl (A5 rfl (by first|exact F2 AV.bool hfin.symm|exact F2 AV.bool BV0))
  intro h23;refine R5 ?_;refine F1 i (i+1) ?_ ?_ (G2 A6)
  ·exact⟨by omega,by rw[hinv.2,J8 hc,CZ2,h23];rfl⟩
  omega
 intro h9 k9;have hge:s.length≤i:=by have:=BO5 h9;omega
 refine R6 ?_;exact D1 rfl (A5 rfl (by first|exact F2 AV.bool hfin.symm|exact F2 AV.bool BV0))
theorem Bp7 (s o:Str)(hs:s.length≤4611686018427387904)(ho:o.length≤4611686018427387904):D6 187 [AV.str s,AV.str o] (AV.bool (Ae6 s o)):=by
 refine B0 func187 rfl ntmps187 rfl ?_;refine R10 ?_;refine E8 [(0,_),(1,_)] _ (fun (i:Nat)=>i≤s.length∧Ae6 s o=Ae6 (s.drop i) o) (fun i=>[]) (fun i=>[(5,AV.int i)]) (fun i=>s.length-i) (0) ?_ (G2 A6) ?_
 ·exact zq4
 intro i hinv;have hinv0:=hinv;clear hinv;refine zK ?_ ?_
 ·intro h11 k11;have hlt:i<s.length:=by have:=AB7 h11;omega
  obtain⟨c,hc⟩:=B2 hlt;refine R7 ?_;refine A1 rfl (Ad2 rfl P6 zA zA qz1 AI6) ?_;refine R4 ?_;refine L5 rfl (fun hc=>Ad2 rfl P6 (A7 rfl hc) (A7 rfl hc) qz6 AI6) ?_;refine R5 ?_;refine S0 rfl (fun hc=>Ad2 rfl P6 (A7 rfl hc) (A7 rfl hc) qz6 AI6) ?_;refine R4 ?_;refine AF2 rfl rfl (Y9 rfl rfl rfl) (fun hc=>Ad2 rfl P6 (A7 rfl hc) (A7 rfl hc) qz6 AI6) ?_;refine R11 ?_;refine K5 [(0,_),(1,_),(5,_),(8,_),(9,_),(10,_),(11,_),(14,_),(15,_),(16,_),(17,_),(18,_),(23,_),(24,_),(35,_)] _ (fun (k:Nat) (b:Bool)=>k≤o.length∧(Ar9 c||o.any fun d=>((c.toNat:Int)==(d.toNat:Int)))=(b||(o.drop k).any fun d=>((c.toNat:Int)==(d.toNat:Int)))) (fun k b=>[]) (fun k b=>[(6,AV.bool b),(7,AV.int k)]) (fun k b=>o.length-k) (0) (Ar9 c) ?_ (G2 A6) ?_
  ·exact zq4
  intro k b hinv;refine zK ?_ ?_
  ·intro h39 k39;have hlt2:k<o.length:=by have:=AB7 h39;omega
   obtain⟨d,hd⟩:=B2 hlt2;refine R8 ?_;refine M1 rfl (Y6 rfl rfl rfl) (fun hc=>Ad2 rfl P6 (A7 rfl hc) (A7 rfl hc) qz6 AI6) ?_;refine R2 ?_;refine M1 rfl (Y6 rfl rfl rfl) (fun hc=>Ad2 rfl P6 (A7 rfl hc) (A7 rfl hc) qz6 AI6) ?_;refine R9 ?_;refine H5 k b (k+1) ((b||((c.toNat:Int)==(d.toNat:Int)))) ?_ ?_ (G2 A6)
   ·exact⟨by omega,by rw[hinv.2,J8 hd,Ak6,Bool.or_assoc]⟩
   omega
  intro h39 k39;have hge2:o.length≤k:=by have:=BO5 h39;omega
  have hg:(Ar9 c||o.any fun d=>((c.toNat:Int)==(d.toNat:Int)))=b:=by rw[hinv.2,r9 hge2];simp
  refine zC ?_ ?_
  ·intro h53;have hfin:Ae6 s o=false:=by rw[hinv0.2,J8 hc,Bo3,hg];cases b<;>simp_all
   refine R5 ?_;exact D1 rfl (A5 rfl qz202)
  intro h53;have hb:b=true:=by cases b<;>simp_all
  refine R6 ?_;refine F1 i (i+1) ?_ ?_ (G2 A6)
  ·exact⟨by omega,by rw[hinv0.2,J8 hc,Bo3,hg,hb];rfl⟩
  omega
 intro h11 k11;have hge:s.length≤i:=by have:=BO5 h11;omega
 refine R6 ?_;exact D1 rfl (A5 rfl qz202)
theorem Az2 (s:Str)(hs:s.length≤4611686018427387904):D6 172 [AV.str s] (AV.bool (z7 s)):=by
  refine B0 func172 rfl ntmps172 rfl ?_;refine R8 ?_;refine zq202 ?_;refine R2 ?_;refine L5 rfl (fun hc=>zG rfl call234 (Cb3 _ _ qz7) (A2 (A7 rfl hc) (A2 (O9 (l:=[46,47]) rfl) A9))) ?_;exact zq114
theorem Bp8 (s:Str)(hs:s.length≤4611686018427387904):D6 236 [AV.str s] (AV.bool (AV3 s)):=by
  refine B0 func236 rfl ntmps236 rfl ?_;refine R11 ?_;refine L5 rfl (fun hc=>zG rfl call234 (Cb3 _ _ qz7) (A2 (A7 rfl hc) (A2 (O9 (l:=[46,45,44,95]) rfl) A9))) ?_;exact zq114
theorem AZ6 (s:Str)(hs:s.length≤4611686018427387904):D6 117 [AV.str s] (AV.bool (y7 s)):=by
  refine B0 func117 rfl ntmps117 rfl ?_;refine R8 ?_;refine zq155 ?_;refine R2 ?_;refine L5 rfl (fun hc=>zG rfl call187 (Bp7 _ _ qz7 E5) (A2 (A7 rfl hc) (A2 (O9 (l:=[46,47]) rfl) A9))) ?_;exact zq114
end Go.PQ