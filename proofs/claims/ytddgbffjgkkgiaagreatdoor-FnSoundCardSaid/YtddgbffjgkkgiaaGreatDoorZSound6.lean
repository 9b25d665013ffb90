/- Texts of the claim, part 6. -/
import Derived.Test.YtddgbffjgkkgiaaGreatDoorZSound5
set_option linter.defProp false
set_option linter.unusedVariables false
set_option linter.unusedSimpArgs false
set_option maxRecDepth 100000
set_option maxHeartbeats 4000000
namespace Go.M
open Go.AV
theorem fullC_at {l:List B8}{k:Str}{c:B8}(hc:¬atC l k<0→o6 l k=some c):Ak9 l k=(decide ((0:Int)≤atC l k)&&decide ((16:Int)≤(c.Vers.length:Int))):=by
  unfold Ak9;by_cases h:atC l k<0
  ·rw[CS4 h,AC1 qz7];rfl
  · rw[hc h,W6 qz7,Bool.true_and]
    dsimp only;rw[decide_eq_decide];omega
theorem at_some (l:List B8)(k:Str):∃c:B8,¬atC l k<0→(∃p:Nat,atC l k=(p:Int)∧l[p]? =some c)∧o6 l k=some c:=by
  by_cases h:atC l k<0
  ·exact⟨⟨[],[]⟩,fun k=>absurd h k⟩
  · obtain⟨p,c,h1,h2,h3⟩:=CS5 h
    exact⟨c,fun _=>⟨⟨p,h1,h2⟩,h3⟩⟩
theorem BO0 {s:E1}{i:Nat}{h y:E0}(hx:s.Held[i]? =some h)(hy:s.Held[i-1]? =some y):Aa3 s i=(!((!BJ9 (AW5 h)||decide (s.Floor<h.Time))||(decide ((0:Int)<(i:Int))&&decide (h.Txn≤y.Txn)))&&((s.Held.take i).all (fun g=>apart g h.Reads h.Writes)&&h.Writes.all fun w=>decide (O5 s.Cells w.Key<h.Time))):=by
  rw[BJ5 hx hy,Ay4];have h2:((s.Held.take i).all fun g=>apart g h.Reads h.Writes)= !((s.Held.take i).any fun g=>Aq4 h g):=by
    rw[List.not_any_eq_all_not];congr 1;funext g;rw[BY7,Bool.not_not]
  have h3:(h.Writes.all fun w=>decide (O5 s.Cells w.Key<h.Time))= !(h.Writes.any fun w=>decide (h.Time≤O5 s.Cells w.Key)):=by
    rw[List.not_any_eq_all_not];congr 1;funext w;rw[←decide_not,decide_eq_decide];omega
  rw[h2,h3]
theorem Bi3 {s:E1}{i:Nat}{t y:H2}(hx:s.Told[i]? =some t)(hy:s.Told[i-1]? =some y):Ai6 s i=(!((((!within t.Txn 1 60||(decide ((0:Int)<(i:Int))&&decide (t.Txn≤y.Txn)))||(t.Yes&& !within t.Time 1 s.Floor))||(!t.Yes&&(t.Time !=0))))&& !AO2 s.Held t.Txn):=by
  rw[BW2 hx hy];congr 2
  show ((!within t.Txn 1 60||_)||_)=_
  have e:(!((t.Yes&&within t.Time 1 s.Floor)||(!t.Yes&&(t.Time==0))))=((t.Yes&& !within t.Time 1 s.Floor)||(!t.Yes&&(t.Time !=0))):=by
    show _=((t.Yes&& !within t.Time 1 s.Floor)||(!t.Yes&& !(t.Time==0)))
    cases t.Yes<;>simp
  rw[e]
  cases within t.Txn 1 60<;>cases (decide ((0:Int)<(i:Int))&&decide (t.Txn≤y.Txn))<;>cases (t.Yes&& !within t.Time 1 s.Floor)<;>cases (!t.Yes&&(t.Time !=0))<;>rfl
def AN4 (l:List E0)(n:Int):E0×Bool:=match AE1 l n with|some h=>(h,true)|none=>(zHeld,false)
def y5 (l:List H2)(n:Int):H2×Bool:=match AD3 l n with|some h=>(h,true)|none=>(zTold,false)
theorem Bq8 (l:List E0)(n:Int):(AN4 l n).2=AO2 l n:=by
  unfold AN4
  cases h:AE1 l n with
  |none=>exact(BN5.1 h).symm
  |some x=>obtain⟨h1,h2⟩:=Ap3 h;exact(hasH_iff.2 ⟨x,h1,h2⟩).symm
theorem Dc4 (l:List H2)(n:Int):(y5 l n).2=AU2 l n:=by
  unfold y5
  cases h:AD3 l n with
  |none=>exact(CJ9.1 h).symm
  | some x=>
    unfold AD3 at h;exact(hasT_iff.2 ⟨x,Ac4 h,by simpa using List.find?_some h⟩).symm
theorem Bi4 {α:Type}{p:α→Bool}:∀{l:List α} {i:Nat} {x:α},l[i]? =some x→p x=true→(∀j y,j<i→l[j]? =some y→p y=false)→l.find? p=some x
  |[],i,x,h,_,_=>by simp at h
  |y::l,0,x,h,hp,_=>by simp at h;subst h;rw[List.find?_cons,hp]
  | y::l,i+1,x,h,hp,hn=>by
    rw[List.find?_cons,hn 0 y qz7 rfl];exact Bi4 Ag3 hp fun j z hj hz=>hn (j+1) z qz7 (by simpa using hz)
theorem Ct6 {α:Type}{p:α→Bool}{l:List α}(hn:∀(j:Nat) (y:α),l[j]? =some y→p y=false):l.find? p=none:=by
  rw[List.find?_eq_none];intro x hx;obtain⟨j,hj⟩:=i5 hx;rw[hn j x hj];decide
structure SO (s:E1):Prop where
  floor:0≤s.Floor
  cells:AN8 s.Cells
  hsort:s.Held.Pairwise fun a b=>a.Txn<b.Txn
  tsort:s.Told.Pairwise fun a b=>a.Txn<b.Txn
  times:∀h∈s.Held,1≤h.Time
theorem gs_so {s:E1}(g:GS s):SO s:=⟨g.floor.1,AJ6 g.cells,g.hsort,g.tsort,fun h hm=>(DS1 g hm).1⟩
theorem DL7 {t:Int}:∀{w:List B1} {l q:List B8},AN8 l→m8 l w t=some q→AN8 q
  |[],l,q,h,e=>by simp[m8]at e;subst e;exact h
  | x::w,l,q,h,e=>by
    unfold m8 at e;split at e
    ·cases e
    ·exact DL7 (Ab5 h _ _) e
theorem so_apply {s:E1} (g:SO s) {r:N5} (h:(Y2 s r).2=true):SO (Y2 s r).1:=by
  have h0:=g.floor;have hless:SO ⟨s.Floor,s.Cells,AC2 s.Held r.Txn,s.Told⟩:=⟨h0,g.cells,g.hsort.sublist List.filter_sublist,g.tsort,fun k hk=>g.times k (Ag0.1 hk).1⟩;unfold Y2 at h⊢;by_cases h4:r.Kind=4
  · rw[D9 h4]at h⊢
    have:=AB7 h;exact⟨by dsimp only;omega,g.cells,g.hsort,g.tsort,g.times⟩
  · rw[D0 h4]at h⊢
    by_cases hT:AU2 s.Told r.Txn=true
    ·rw[D9 hT]at h;cases h
    · rw[D0 hT]at h⊢
      rw[Bool.not_eq_true]at hT;have htn:=Bh2.1 hT;have htl:(AY1 ⟨r.Txn,r.Yes,r.Time⟩ s.Told).Pairwise fun a b=>a.Txn<b.Txn:=Bp4 g.tsort htn;by_cases h1:r.Kind=1
      · rw[D9 h1]at h⊢
        simp only[F0,n5,H6]at h;refine⟨by dsimp only;omega,g.cells,Bp3 g.hsort (Ab7.1 h.1.1),g.tsort,fun k hk=> ?_⟩;rcases An4.1 hk with rfl|hk
        ·show 1≤r.Time;omega
        ·exact g.times k hk
      · rw[D0 h1]at h⊢
        by_cases hy:r.Yes=true
        · rw[D9 hy]at h⊢
          cases hf:AE1 s.Held r.Txn with
          |none=>rw[hf]at h;cases h
          | some k=>
            rw[hf]at h;dsimp only at h⊢;by_cases hlt:r.Time<k.Time
            ·rw[D9 hlt]at h;cases h
            · rw[D0 hlt]at h⊢
              by_cases hp:(AL8 s.Cells k.Writes r.Time).2=true
              · rw[D9 hp]
                exact⟨by unfold AQ2;dsimp only;split<;>omega,DL7 g.cells (Bw2 hp).1,hless.hsort,htl,hless.times⟩
              ·rw[D0 hp]at h;cases h
        · rw[D0 hy]
          exact⟨h0,g.cells,hless.hsort,htl,hless.times⟩
theorem so_step {s:E1}(g:SO s)(r:N5):SO (AK9 s r):=by
  unfold AK9;split
  ·exact so_apply g ‹_›
  ·exact g
theorem so_zero :SO V0:=gs_so BQ2
theorem DL8 :∀{l:List N5} {s:E1},SO s→SO (Z2 s l)
  |[],s,g=>g
  | r::l,s,g=>by
    show SO (Z2 (AK9 s r) l)
    exact DL8 (so_step g r)
theorem BW3 {l:List E0}{i:Nat}{h:E0}{n:Int}(hx:l[i]? =some h):AC2 (l.take (i+1)) n=if (h.Txn !=n)=true then AC2 (l.take i) n++[h]else AC2 (l.take i) n:=by
  unfold AC2;rw[X3,hx,List.filter_append];show _++List.filter _ [h]=_
  split
  ·rename_i e;rw[List.filter_cons_of_pos (p:=fun h:E0=>h.Txn !=n) e];rfl
  ·rename_i e;rw[List.filter_cons_of_neg (p:=fun h:E0=>h.Txn !=n) e];simp
theorem Cb9 (s:Str):∀l:List Str,D2 (fun x:Str=>x.length) (AE9 l s)≤D2 (fun x:Str=>x.length) l+s.length+1
  |[]=>by unfold AE9 D2;simp;omega
  | y ::l=>by
    have ih:=Cb9 s l;have hc:∀(z:Str) (q:List Str),D2 (fun x:Str=>x.length) (z::q)=D2 (fun x:Str=>x.length) q+z.length+1:=fun z q=>by unfold D2;simp;omega
    unfold AE9;split
    ·rw[hc s];omega
    · split
      ·omega
      ·rw[hc,hc];omega
theorem Bq9 {α:Type}{f:α→Nat}{c:Nat}:∀{l:List α},(∀x∈l,f x≤c)→D2 f l≤l.length*(c+1)
  |[],_=>E4 _
  | x::l,h=>by
    have h1:=Bq9 (l:=l) fun y hy=>h y (U5 _ hy);have h2:=h x n4;unfold D2 at h1⊢;simp only[J7,m4,List.sum_cons];have:(l.length+1)*(c+1)=l.length*(c+1)+(c+1):=Nat.succ_mul _ _;omega
theorem gr_size {r:D8}{t:Int}(h:GR r t):r.size≤60*401:=by
  unfold D8.size;refine L7 (Bq9 (c:=400) fun e he=> ?_) (AD0 _ h.len);exact AY4 (h.ents e he).2.2
theorem BE1 {g:C1}(h:GG g):g.size≤5*24061:=by
  unfold C1.size;refine L7 (Bq9 (c:=24060) fun r hr=>gr_size (h.reps r hr)) (AD0 _ ?_);rcases h.many with k|k<;>omega
theorem DD8 {a b:List F4}{i:Nat}{x y:F4}(h:a.take i=b.take i)(hx:a[i]? =some x)(hy:b[i]? =some y)(he:x=y):a.take (i+1)=b.take (i+1):=by
  rw[X3,X3,h,hx,hy,he]
theorem Dc5 {a b:List F4}{i n:Nat}{x y:F4}(hi:i<n)(hx:a[i]? =some x)(hy:b[i]? =some y)(he:x≠y):AC4 a b n=false:=by
  unfold AC4;refine AC1 fun h=>he ?_;have h1:=F2 (fun l=>l[i]?) h.2.2;rw[AD6 hi,AD6 hi,hx,hy]at h1;injection h1
theorem entry_eq {x y:F4}:(x.Term !=y.Term|| !decide (x.Rec=y.Rec))= !decide (x=y):=by
  cases x;cases y
  rw[AI1];simp only[AC0,BO6,ne_eq,n5,AB8,F4.mk.injEq,not_and];exact⟨fun h e1 e2=>h.elim (fun k=>k e1) (fun k=>k e2),fun h=>Classical.byCases (fun e1=> .inr (h e1)) .inl⟩
theorem AR9 {α:Type}{p:α→Bool}{l:List α}{i:Nat}{x:α}(h:l[i]? =some x):((l.take (i+1)).filter p).length=((l.take i).filter p).length+(if p x=true then 1 else 0):=by
  rw[X3,h,List.filter_append,I2];congr 1
  show ([x].filter p).length=_
  by_cases hp:p x=true
  ·rw[List.filter_cons_of_pos hp,D9 hp];rfl
  ·rw[List.filter_cons_of_neg hp,D0 hp];rfl
theorem Dc6 {l:List F4}{e:F4}(h:l[l.length-1]? =some e):AW8 l=e.Term:=by
  unfold AW8;rw[List.getLast?_eq_getElem?,h]
theorem DS2 {l:List F4}(h:l.length=0):AW8 l=0:=by
  rw[Ak2 h];rfl
theorem BO1 {t:Int}{l:List F4}{i:Nat}{p:Int}{e:F4}(hx:l[i]? =some e):Aa4 t p (l.drop i)=((within e.Term p t&&T8 e.Rec)&&Aa4 t e.Term (l.drop (i+1))):=by
  rw[J8 hx];rfl
end Go.M
namespace Go.PQ
open Go.Proofs Go.Proofs.Tryz
open Go Go.AV Go.M
attribute [local irreducible] OpW OpA OpS AWP J6 L6 K3 OpE K4 I5 L0 Le Ev G4 L9 Int.tmod Int.tdiv IntKind.wrap
theorem Cg4 (h:E0):D6 427 [AV.agg h.cs] (AV.agg (AW5 h).cs):=by
  refine B0 func427 rfl ntmps427 rfl ?_;refine R3 ?_;intro b1;refine R1 ?_;intro b2;refine R17 ?_;exact D1 rfl (F5 (ys:=_) 0 rfl rfl AK0 y9 rfl)
theorem BO2 (l:List B1)(k:Str):D6 358 [AV.list 3 (l.map B1.cs),AV.str k] (AV.bool (AW6 l k)):=by
 refine B0 func358 rfl ntmps358 rfl ?_;refine Y0 (t:=0) rfl fun hl=> ?_;try simp only[A8]at hl
 refine R12 ?_;refine E8 [(1,_),(7,_),(8,_)] _ (fun (i:Nat)=>i≤l.length∧AW6 l k=(l.drop i).any (fun w=>w.Key==k)) (fun i=>[]) (fun i=>[(9,AV.int i)]) (fun i=>l.length-i) (0) ?_ (G2 A6) ?_
 ·exact zq4
 intro i hinv;refine zK ?_ ?_
 ·intro h10 k10;have hlt:i<l.length:=by omega
  obtain⟨x,hx⟩:=B2 hlt;refine zq62 ?_;intro b6;refine zC ?_ ?_
  ·intro h16;refine R5 ?_;exact D1 rfl (A5 rfl qz197)
  intro h16;refine R5 ?_;refine F1 i (i+1) ?_ ?_ (T4 1 A6)
  ·exact⟨by omega,by rw[hinv.2,J8 hx,Ak6,h16];rfl⟩
  omega
 intro h10 k10;have hge:l.length≤i:=by omega
 refine R6 ?_;exact D1 rfl (A5 rfl qz197)
theorem CK1 (l:List Str)(k:Str):D6 359 [strs l,AV.str k] (AV.bool (BT8 l k)):=by
 refine B0 func359 rfl ntmps359 rfl ?_;refine Y0 (t:=0) rfl fun hl=> ?_;try simp only[A8]at hl
 refine R12 ?_;refine E8 [(1,_),(7,_),(8,_)] _ (fun (i:Nat)=>i≤l.length∧BT8 l k=(l.drop i).any (fun x=>k==x)) (fun i=>[]) (fun i=>[(9,AV.int i)]) (fun i=>l.length-i) (0) ?_ (G2 A6) ?_
 ·exact zq4
 intro i hinv;refine zK ?_ ?_
 ·intro h10 k10;have hlt:i<l.length:=by omega
  obtain⟨x,hx⟩:=B2 hlt;refine zq72 ?_;refine zC ?_ ?_
  ·intro h15;refine R5 ?_;exact D1 rfl (A5 rfl qz159)
  intro h15;refine R5 ?_;refine F1 i (i+1) ?_ ?_ (G2 A6)
  ·exact⟨by omega,by rw[hinv.2,J8 hx,Ak6,show (k==x)=false from by have h9:=h15;simp at h9⊢;exact fun e=>h9 e.symm];rfl⟩
  omega
 intro h10 k10;have hge:l.length≤i:=by omega
 refine R6 ?_;exact D1 rfl (A5 rfl qz159)
theorem apart_spec (h:E0)(rs:List Str)(ws:List B1):D6 328 [AV.agg h.cs,strs rs,AV.list 3 (ws.map B1.cs)] (AV.bool (apart h rs ws)):=by
 refine B0 func328 rfl ntmps328 rfl ?_;refine Y0 (t:=1) rfl fun hl1=> ?_;try simp only[A8]at hl1
 refine Y0 (t:=2) rfl fun hl2=> ?_;try simp only[A8]at hl2
 refine R3 ?_;intro b3;refine R10 ?_;refine E8 [(2,_),(3,_),(11,_),(12,_)] _ (fun (i:Nat)=>i≤rs.length∧(rs.all fun k=> !AW6 h.Writes k)=((rs.drop i).all fun k=> !AW6 h.Writes k)) (fun i=>[]) (fun i=>[(13,AV.int i)]) (fun i=>rs.length-i) (0) ?_ (G2 A6) ?_
 ·exact zq4
 intro i hinv;refine zK ?_ ?_
 ·intro h14 k14;have hlt:i<rs.length:=by omega
  obtain⟨x,hx⟩:=B2 hlt;refine zq72 ?_;refine R8 ?_;refine zF rfl call358 (BO2 _ _) F3 ?_;refine zC ?_ ?_
  ·intro h20;have hfin:apart h rs ws=false:=by (unfold apart;rw[hinv.2,J8 hx,AA7,h20];rfl)
   exact zq60
  intro h20;refine R5 ?_;refine F1 i (i+1) ?_ ?_ (G2 A6)
  ·exact⟨by omega,by rw[hinv.2,J8 hx,AA7,h20];rfl⟩
  omega
 intro h14 k14;have hge:rs.length≤i:=by omega
 have hr:(rs.all fun k=> !AW6 h.Writes k)=true:=by (rw[hinv.2,r9 hge];rfl)
 refine R9 ?_;refine E8 [(3,_),(22,_),(23,_)] _ (fun (q:Nat)=>q≤ws.length∧(ws.all fun w=> !(AW6 h.Writes w.Key||BT8 h.Reads w.Key))=((ws.drop q).all fun w=> !(AW6 h.Writes w.Key||BT8 h.Reads w.Key))) (fun q=>[]) (fun q=>[(24,AV.int q)]) (fun q=>ws.length-q) (0) ?_ (G2 A6) ?_
 ·exact zq4
 intro q hinv;refine zK ?_ ?_
 ·intro h25 k25;have hlt:q<ws.length:=by omega
  obtain⟨x,hx⟩:=B2 hlt;refine zq62 ?_;intro b10;refine R8 ?_;refine zF rfl call358 (BO2 _ _) F3 ?_;refine R5 ?_;refine S0 rfl (fun hc=>zG rfl call359 (CK1 _ _) zS) ?_;refine zC ?_ ?_
  ·intro h39;have hfin:apart h rs ws=false:=by (unfold apart;rw[hinv.2,J8 hx,AA7,h39];simp)
   exact zq60
  intro h39;refine R5 ?_;refine F1 q (q+1) ?_ ?_ (T4 1 A6)
  ·exact⟨by omega,by rw[hinv.2,J8 hx,AA7,h39];rfl⟩
  omega
 intro h25 k25;have hge:ws.length≤q:=by omega
 have hfin:apart h rs ws=true:=by (unfold apart;rw[hr,hinv.2,r9 hge];rfl)
 refine R6 ?_;exact D1 rfl (A5 rfl BC3)
theorem DD9 (l:List E0)(q:Nat):(hWs (l.take q)).length≤(hWs l).length:=by
  have h:=Bh0 (l.take q) (l.drop q);rw[Ak4]at h;rw[h,I2];omega
theorem CK2 (s:E1)(ws:List B1)(hs:s.size≤1048576)(hb:s.Cells.length+ws.length+(hWs s.Held).length≤800000):D6 329 [AV.agg s.cs,AV.list 3 (ws.map B1.cs)] (AV.bool (room s.Cells (ws++hWs s.Held))):=by
 obtain⟨hs1,hs2,hs3,hs4,hs5⟩:=AB6 hs;obtain⟨p,hp⟩:∃p:B1→Bool,p=fun w=> !Ak9 s.Cells w.Key:=⟨_,rfl⟩;obtain⟨al,hal⟩:∃al,ws++hWs s.Held=al:=⟨_,rfl⟩;have hall:al.length≤800000-s.Cells.length:=by rw[←hal,I2];omega
 rw[hal];refine B0 func329 rfl ntmps329 rfl ?_;refine R3 ?_;intro b2;refine R4 ?_;refine n1 9 1 rfl rfl rfl rfl L2 ?_;intro v5;refine R10 ?_;refine K5 [(1,_),(2,_),(4,_),(15,_),(16,_)] _ (fun (i:Nat) (v:Value)=>i≤s.Cells.length) (fun i v=>[.arr v 9 1 ((AG0 (AA8 (s.Cells.take i)) []).map fun s=>[AV.str s])]) (fun i v=>[(5,AV.is v),(17,AV.int i)]) (fun i v=>s.Cells.length-i) (0) (v5) ?_ (I1 B7 A6) ?_
 ·exact E4 _
 intro i v hinv;refine zK ?_ ?_
 ·intro h18 k18;have hlt:i<s.Cells.length:=by omega
  obtain⟨c,hx⟩:=B2 hlt;have hpl:=Ar5 (AA8 (s.Cells.take i)) [];unfold AA8 at hpl;simp only[A8,H0,T5]at hpl;refine R5 ?_;refine zq71 ?_;intro b7;refine R6 ?_;refine zI [1] rfl call105 (Ah5 v (AG0 (AA8 (s.Cells.take i)) []) c.Key (Aj4 List.Pairwise.nil).1 (by unfold AA8;omega)) F3 rfl ?_;intro x24 ok24;refine R6 ?_;refine H5 i v (i+1) (x24) ?_ ?_ (Le.trans (B4 [1,0] rfl) (D5 1 (by exact F2 (fun z=>Own.arr _ 9 1 (List.map (fun s=>[AV.str s]) z)::_) (by unfold AA8;rw[X3,hx,Y3];exact(Ay6 _ _ _).symm)) A6))
  ·omega
  omega
 intro h18 k18;have hge:s.Cells.length≤i:=by omega
 rw[S7 hge];refine zq204 ?_;intro v26;refine R1 ?_;refine I0 (by':=40) 0 rfl rfl rfl rfl G5 type248 rfl rfl rfl rfl rfl rfl zA zA rfl Be4 ?_;intro v28_1;refine R11 ?_;refine W1 [(2,_),(4,_),(5,_),(30,_),(31,_)] _ (fun (q:Nat) (u:Value) (a:List B1)=>q≤s.Held.length∧a=ws++hWs (s.Held.take q)) (fun q u a=>[.arr u 248 3 (a.map B1.cs)]) (fun q u a=>[(8,AV.is u),(32,AV.int q)]) (fun q u a=>s.Held.length-q) (0) (v28_1) (ws) ?_ (I1 B7 A6) ?_
 ·exact⟨E4 _,by rw[List.take_zero];exact(T2 _).symm⟩
 intro q u a hinv;refine zK ?_ ?_
 ·intro h33 k33;have hlt:q<s.Held.length:=by omega
  obtain⟨h,hx⟩:=B2 hlt;obtain⟨g1,g2,g3,g4,g5⟩:=AM0 hs2 hx;have hwt:=DD9 s.Held q;have hal9:a.length≤800000:=by (rw[hinv.2,I2];omega)
  refine zq27 ?_;intro b10;refine R6 ?_;refine I0 (by':=40) 1 rfl rfl rfl rfl G5 type248 rfl rfl rfl rfl rfl rfl zA zA rfl (by simp only[I2,A8];omega) ?_;intro v39_2;refine R6 ?_;refine Q8 q u a (q+1) (v39_2) (a++h.Writes) ?_ ?_ (Le.trans (B4 [0,0] rfl) (D5 1 BM4 A6))
  ·exact⟨by omega,by rw[hinv.2,Cs0 hx,o7]⟩
  omega
 intro h33 k33;have hge:s.Held.length≤q:=by omega
 have ha9:a=al:=by (rw[hinv.2,S7 hge,hal])
 subst ha9;refine R9 ?_;refine zL [1] ?_;refine W1 [(2,_),(41,_),(42,_)] _ (fun (r:Nat) (v2:Value) (ks:List Str)=>r≤a.length∧a.all p=(a.drop r).all p∧ks=AG0 (AA8 s.Cells++O8 (a.take r)) []) (fun r v2 ks=>[.arr v2 9 1 (ks.map fun s=>[AV.str s])]) (fun r v2 ks=>[(5,AV.is v2),(43,AV.int r)]) (fun r v2 ks=>a.length-r) (0) (v) (AG0 (AA8 s.Cells) []) ?_ (I1 B7 A6) ?_
 ·exact⟨E4 _,rfl,by rw[List.take_zero];exact F2 (fun z=>AG0 z []) (T2 _).symm⟩
 intro r v2 ks hinv;refine zK ?_ ?_
 ·intro h44 k44;have hlt:r<a.length:=by omega
  obtain⟨w,hx⟩:=B2 hlt;obtain⟨c,hc0⟩:=at_some s.Cells w.Key;have hfu:=fullC_at (l:=s.Cells) (k:=w.Key) (c:=c) (fun h9=>(hc0 h9).2);have hpl:=Ar5 (AA8 s.Cells++O8 (a.take r)) [];unfold AA8 O8 at hpl;simp only[I2,A8,H0,T5]at hpl;refine R5 ?_;refine A1 rfl (I4 1 rfl G5 M8 zA rfl zA qz7 (by try simp only[A8];omega)) ?_;refine A1 rfl (r5 1 rfl zA rfl isAgg248 M8 (by rw[o5,a8,hx];rfl) E5) ?_;refine R1 ?_;intro b12;refine R7 ?_;refine zI [1] rfl call105 (Ah5 v2 ks w.Key (by rw[hinv.2.2];exact(Aj4 List.Pairwise.nil).1) (by rw[hinv.2.2];unfold AA8 O8;omega)) F3 rfl ?_;intro x50 ok50;refine R8 ?_;refine zF rfl call164 (Bq3 _ _) F3 ?_;refine R10 ?_;refine L5 rfl (fun hc=>AX5 rfl E7 K0 (A7 rfl hc) (A7 rfl hc) (by have h9:=AB7 hc;obtain⟨⟨p9,e1,e2⟩,_⟩:=hc0 qz7;have:=(G1.1 e2).1;omega) (by have h9:=AB7 hc;obtain⟨⟨p9,e1,e2⟩,_⟩:=hc0 qz7;rw[e1,o5,a8,e2];rfl)) ?_;refine zC ?_ ?_
  ·intro h67;have hpw:p w=false:=by (rw[hp];simp only[AD1];rw[hfu];rw[A8]at h67;exact h67)
   have hro:room s.Cells a=false:=by (unfold room;rw[show (a.all fun w=> !Ak9 s.Cells w.Key)=false from by rw[←hp,hinv.2.1,J8 hx,AA7,hpw];rfl];rfl)
   refine R5 ?_;exact D1 rfl (A5 rfl qz181)
  intro h67;have hpw:p w=true:=by (rw[hp];simp only[n5];rw[hfu];rw[A8]at h67;exact h67)
  refine R5 ?_;refine Q8 r v2 ks (r+1) (x50) (AE9 ks w.Key) ?_ ?_ (Le.trans (B4 [1,0] rfl) (D5 1 B7 A6))
  ·exact⟨by omega,by rw[hinv.2.1,J8 hx,AA7,hpw];rfl,by rw[hinv.2.2];unfold O8;rw[X3,hx,Y3,←o7];exact(Ay6 _ _ _).symm⟩
  omega
 intro h44 k44;have hge:a.length≤r:=by omega
 have hks:=hinv.2.2;rw[S7 hge]at hks;have hro:room s.Cells a=decide (ks.length≤24):=by (unfold room As1;rw[←hp,hinv.2.1,r9 hge,CZ8,←hks];rfl)
 refine R9 ?_;exact D1 rfl (A5 rfl qz181)
theorem DS3 (s:E1)(ws:List B1)(hs:s.size≤400000)(hw:D2 B1.size ws≤400000):D6 329 [AV.agg s.cs,AV.list 3 (ws.map B1.cs)] (AV.bool (room s.Cells (ws++hWs s.Held))):=by
  have hsum:D2 B8.size s.Cells+D2 E0.size s.Held≤400000:=by have h9:s.size=D2 B8.size s.Cells+D2 E0.size s.Held+s.Told.length:=rfl;omega
  have hcl:=M7 (f:=B8.size) (l:=s.Cells);have hwl:=M7 (f:=B1.size) (l:=ws);have hhl:=CT6 (l:=s.Held);exact CK2 s ws qz7 qz7
theorem Cc0 :∀{l:List E0},(∀h∈l,T8 (AW5 h)=true)→(hWs l).length≤400*l.length
  |[],_=>K9 _
  | h::l,hg=>by
    have ih:=Cc0 fun k hk=>hg k (U5 h hk);have h1:=AY4 (hg h n4);have h4:=M7 (f:=B1.size) (l:=h.Writes);have h2:(AW5 h).size=D2 (fun x=>x.length) h.Reads+D2 B1.size h.Writes:=rfl;rw[BD4,I2,J7];omega
theorem DS4 {s:E1}(h:BE7 s.Held.length (Aa3 s)=true):∀k∈s.Held,T8 (AW5 k)=true:=fun k hk=>by
  obtain⟨i,hi⟩:=i5 hk;have h9:=An3.1 h i (G1.1 hi).1;unfold Aa3 at h9;rw[hi]at h9;simp only[F0]at h9;exact h9.1.1.1.1
theorem Ae0 (s:E1)(n:Int)(hlen:s.Held.length≤1048576):D6 94 [AV.agg s.cs,AV.int n] (AV.tup [AV.agg (AN4 s.Held n).1.cs,AV.bool (AN4 s.Held n).2]):=by
 obtain⟨l,hl⟩:∃l,s.Held=l:=⟨_,rfl⟩;have hcs:s.cs=[AV.int s.Floor,AV.list 2 (s.Cells.map B8.cs),AV.list 5 (l.map E0.cs),AV.list 3 (s.Told.map H2.cs)]:=by rw[←hl];rfl
 rw[hl]at hlen;rw[hl,hcs];refine B0 func94 rfl ntmps94 rfl ?_;refine R3 ?_;intro b2;refine R1 ?_;intro b4;refine R11 ?_;refine E8 [(1,_),(4,_),(9,_),(10,_)] _ (fun (i:Nat)=>i≤l.length∧∀j y,j<i→l[j]? =some y→(y.Txn==n)=false) (fun i=>[]) (fun i=>[(11,AV.int i)]) (fun i=>l.length-i) (0) ?_ (G2 A6) ?_
 ·exact⟨E4 _,fun j y hj=>by omega⟩
 intro i hinv;refine zK ?_ ?_
 ·intro h12 k12;have hlt:i<l.length:=by omega
  obtain⟨x,hx⟩:=B2 hlt;refine zq27 ?_;intro b7;refine zC ?_ ?_
  ·intro h18;have he:AN4 l n=(x,true):=by (unfold AN4 AE1;rw[Bi4 hx h18 hinv.2])
   rw[he];refine R7 ?_;exact Y1 rfl E5 (G0 (F5 (ys:=_) 1 rfl rfl Ae4 O0 rfl) V6)
  intro h18;refine R5 ?_;refine F1 i (i+1) ?_ ?_ (T4 1 A6)
  ·exact⟨by omega,fun j y hj hy=>if hji:j<i then hinv.2 j y hji hy else qz210⟩
  omega
 intro h12 k12;have hge:l.length≤i:=by omega
 have he:AN4 l n=(zHeld,false):=by (unfold AN4 AE1;rw[Ct6 fun j y hy=>hinv.2 j y (Nat.lt_of_lt_of_le (G1.1 hy).1 hge) hy])
 rw[he];refine R8 ?_;refine BG7 0 3 1 rfl rfl ?_;refine BG7 0 4 3 rfl rfl ?_;exact Y1 rfl E5 (G0 (F5 (ys:=_) 0 rfl rfl Ae4 O0 rfl) V6)
theorem AJ7 (s:E1)(n:Int)(hlen:s.Told.length≤1048576):D6 93 [AV.agg s.cs,AV.int n] (AV.tup [AV.agg (y5 s.Told n).1.cs,AV.bool (y5 s.Told n).2]):=by
 obtain⟨l,hl⟩:∃l,s.Told=l:=⟨_,rfl⟩;have hcs:s.cs=[AV.int s.Floor,AV.list 2 (s.Cells.map B8.cs),AV.list 5 (s.Held.map E0.cs),AV.list 3 (l.map H2.cs)]:=by rw[←hl];rfl
 rw[hl]at hlen;rw[hl,hcs];refine B0 func93 rfl ntmps93 rfl ?_;refine R3 ?_;intro b2;refine R1 ?_;intro b4;refine R11 ?_;refine E8 [(1,_),(4,_),(9,_),(10,_)] _ (fun (i:Nat)=>i≤l.length∧∀j y,j<i→l[j]? =some y→(y.Txn==n)=false) (fun i=>[]) (fun i=>[(11,AV.int i)]) (fun i=>l.length-i) (0) ?_ (G2 A6) ?_
 ·exact⟨E4 _,fun j y hj=>by omega⟩
 intro i hinv;refine zK ?_ ?_
 ·intro h12 k12;have hlt:i<l.length:=by omega
  obtain⟨x,hx⟩:=B2 hlt;refine R5 ?_;refine A1 rfl (C2 rfl K7 Q2 zA zA hx qz1) ?_;refine R2 ?_;intro b7;refine zC ?_ ?_
  ·intro h18;have he:y5 l n=(x,true):=by (unfold y5 AD3;rw[Bi4 hx h18 hinv.2])
   rw[he];refine R7 ?_;exact Y1 rfl E5 (G0 (F5 (ys:=_) 1 rfl rfl AW3 Q2 rfl) V6)
  intro h18;refine R5 ?_;refine F1 i (i+1) ?_ ?_ (T4 1 A6)
  ·exact⟨by omega,fun j y hj hy=>if hji:j<i then hinv.2 j y hji hy else qz210⟩
  omega
 intro h12 k12;have hge:l.length≤i:=by omega
 have he:y5 l n=(zTold,false):=by (unfold y5 AD3;rw[Ct6 fun j y hy=>hinv.2 j y (Nat.lt_of_lt_of_le (G1.1 hy).1 hge) hy])
 rw[he];refine R8 ?_;exact zq191
theorem Cg5 (s:E1)(ho:AN8 s.Cells)(hcl:s.Cells.length≤400000)(hs:s.size≤1048576):D6 426 [AV.agg s.cs] (AV.bool (AG1 s)):=by
 obtain⟨hs1,hs2,hs3,hs4,hs5⟩:=AB6 hs;refine B0 func426 rfl ntmps426 rfl ?_;refine R3 ?_;intro b1;refine R11 ?_;refine E8 [(1,_),(10,_),(11,_)] _ (fun (i:Nat)=>i≤s.Held.length∧∀j,j<i→Aa3 s j=true) (fun i=>[]) (fun i=>[(12,AV.int i)]) (fun i=>s.Held.length-i) (0) ?_ (G2 A6) ?_
 ·exact⟨E4 _,fun j hj=>by omega⟩
 intro i hinv;refine zK ?_ ?_
 ·intro h13 k13;have hlt:i<s.Held.length:=by omega
  obtain⟨h,hx⟩:=B2 hlt;obtain⟨y,hy⟩:=B2 (show i-1<s.Held.length by omega);obtain⟨g1,g2,g3,g4,g5⟩:=AM0 hs2 hx;have hinv0:=hinv;refine R6 ?_;refine A1 rfl (C2 rfl H1 O0 zA zA hx qz1) ?_;refine R2 ?_;intro b4;refine R7 ?_;refine B3 rfl rfl (zG rfl call427 (Cg4 _) G6) ?_;refine B3 rfl rfl (zG rfl call279 (By9 _ X9) (A2 (A0 rfl) A9)) ?_;refine R16 ?_;refine M1 rfl (Y9 rfl rfl rfl) (fun hc=>C2 rfl H1 O0 (A7 rfl hc) (A7 rfl hc) hy qz6) ?_;refine zC ?_ ?_
  ·intro h43;have hfin:AG1 s=false:=by (unfold AG1;rw[AP8 hlt (by rw[BO0 hx hy,h43];rfl)];rfl)
   refine R5 ?_;exact D1 rfl (A5 rfl qz60)
  intro h43;refine R7 ?_;refine A1 rfl (AG5 rfl H1 O0 zA zA qz1 qz1) ?_;refine R4 ?_;refine E8 [(1,_),(3,_),(4,_),(10,_),(11,_),(12,_),(13,_),(14,_),(15,_),(16,_),(17,_),(18,_),(19,_),(20,_),(21,_),(27,_),(28,_),(43,_),(44,_),(45,_),(46,_),(47,_),(48,_)] _ (fun (q:Nat)=>q≤(s.Held.take i).length∧((s.Held.take i).all fun g=>apart g h.Reads h.Writes)=(((s.Held.take i).drop q).all fun g=>apart g h.Reads h.Writes)) (fun q=>[]) (fun q=>[(49,AV.int q)]) (fun q=>(s.Held.take i).length-q) (0) ?_ (G2 A6) ?_
  ·exact zq4
  intro q hinv;refine zK ?_ ?_
  ·intro h50 k50;have hlt2:q<(s.Held.take i).length:=by (simp only[H0,A8,o5]at k50⊢;omega)
   obtain⟨k,hx2⟩:=B2 hlt2;refine R5 ?_;refine A1 rfl (C2 rfl H1 O0 zA zA hx2 qz1) ?_;refine R2 ?_;intro b6;refine R9 ?_;refine zF rfl call328 (apart_spec _ _ _) AD5 ?_;refine zC ?_ ?_
   ·intro h59;have hfin:AG1 s=false:=by (unfold AG1;rw[AP8 hlt (by rw[BO0 hx hy,hinv.2,J8 hx2,AA7,show apart k h.Reads h.Writes=false by simpa using h59];simp)];rfl)
    refine R5 ?_;exact D1 rfl (A5 rfl qz60)
   intro h59;refine R5 ?_;refine F1 q (q+1) ?_ ?_ (T4 1 A6)
   ·exact⟨by omega,by rw[hinv.2,J8 hx2,AA7,show apart k h.Reads h.Writes=true by simpa using h59];rfl⟩
   omega
  intro h50 k50;have hge2:(s.Held.take i).length≤q:=by (simp only[H0,A8,o5]at k50⊢;omega)
  have hap:((s.Held.take i).all fun g=>apart g h.Reads h.Writes)=true:=by (rw[hinv.2,r9 hge2];rfl)
  refine R9 ?_;refine E8 [(1,_),(3,_),(4,_),(10,_),(11,_),(12,_),(13,_),(14,_),(15,_),(16,_),(17,_),(18,_),(19,_),(20,_),(21,_),(27,_),(28,_),(43,_),(44,_),(45,_),(46,_),(47,_),(48,_),(49,_),(50,_),(61,_),(62,_),(63,_)] _ (fun (r:Nat)=>r≤h.Writes.length∧(h.Writes.all fun w=>decide (O5 s.Cells w.Key<h.Time))=((h.Writes.drop r).all fun w=>decide (O5 s.Cells w.Key<h.Time))) (fun r=>[]) (fun r=>[(64,AV.int r)]) (fun r=>h.Writes.length-r) (0) ?_ (G2 A6) ?_
  ·exact zq4
  intro r hinv;refine zK ?_ ?_
  ·intro h65 k65;have hlt3:r<h.Writes.length:=by omega
   obtain⟨w,hw⟩:=B2 hlt3;refine R5 ?_;refine A1 rfl (C2 rfl G5 M8 zA zA hw qz1) ?_;refine R2 ?_;intro b8;refine R8 ?_;refine B3 rfl rfl (zG rfl call330 (BZ4 _ _ (by first|assumption|exact AJ6 (by rw[AJ5];assumption)) X9) (A2 (A0 rfl) (A2 (A0 rfl) A9))) ?_;refine zK ?_ ?_
   ·intro h75 k75;have hfin:AG1 s=false:=by (unfold AG1;rw[AP8 hlt (by rw[BO0 hx hy,hinv.2,J8 hw,AA7,AC1 (show ¬O5 s.Cells w.Key<h.Time by omega)];simp)];rfl)
    refine R5 ?_;exact D1 rfl (A5 rfl qz60)
   intro h75 k75;refine R5 ?_;refine F1 r (r+1) ?_ ?_ (T4 1 A6)
   ·exact⟨by omega,by rw[hinv.2,J8 hw,AA7,W6 (show O5 s.Cells w.Key<h.Time by omega)];rfl⟩
   omega
  intro h65 k65;have hge3:h.Writes.length≤r:=by omega
  have hlw:(h.Writes.all fun w=>decide (O5 s.Cells w.Key<h.Time))=true:=by (rw[hinv.2,r9 hge3];rfl)
  refine R5 ?_;refine F1 i (i+1) ?_ ?_ (T4 1 A6)
  ·exact⟨by omega,fun j hj=>if hji:j<i then hinv0.2 j hji else (by have e:j=i:=qz7;subst e;rw[BO0 hx hy,h43,hap,hlw];rfl)⟩
  omega
 intro h13 k13;have hall:BE7 s.Held.length (Aa3 s)=true:=An3.2 fun j hj=>hinv.2 j qz7;refine R9 ?_;refine L5 rfl (fun hc=>zG rfl call329 (CK2 s [] hs (by (have h9:=Cc0 (DS4 hall);have h8:=AB7 hc;simp only[A8]at h8;simp only[T5];omega))) (A2 (A7 rfl hc) (A2 j0 A9))) ?_;refine R4 ?_;exact D1 rfl (A5 rfl qz60)
theorem CK3 (s:E1)(hs:s.size≤1048576):D6 425 [AV.agg s.cs] (AV.bool (V1 s)):=by
 obtain⟨hs1,hs2,hs3,hs4,hs5⟩:=AB6 hs;refine B0 func425 rfl ntmps425 rfl ?_;refine R3 ?_;intro b1;refine R7 ?_;refine zF rfl call86 (Ar7 _) G6 ?_;refine R4 ?_;refine S0 rfl (fun hc=>zG rfl call331 (By7 _ X9) (A2 (A7 rfl hc) A9)) ?_;refine R4 ?_;refine S0 rfl (fun hc=>zG rfl call426 (Cg5 s (AJ6 (by have h9:=hc;simp at h9;rw[AJ5];exact h9.2)) (by have h9:=hc;simp at h9;have h8:=(AF3 (by rw[AJ5];exact h9.2)).1;omega) hs) zS) ?_;refine zC ?_ ?_
 ·intro h29;have hfin:V1 s=false:=by (unfold V1;simp only[AC0,n5,H6,A8]at h29;rcases h29 with ((h|h)|h)|h;(rw[h];rfl);(rw[AJ5,h];simp);(rw[h];simp);(rw[AC1 (show ¬s.Told.length≤60 by omega)];simp))
  exact zq60
 intro h29;simp only[v9,AD1,AB8,A8]at h29;obtain⟨⟨⟨q1,q2⟩,q3⟩,q4⟩:=h29;have hco:=AJ6 (by rw[AJ5];exact q2);have hgs:V1 s=((s.Cells.all fun c=>decide (O5 s.Cells c.Key≤s.Floor))&&BE7 s.Told.length (Ai6 s)):=by (unfold V1;rw[q1,AJ5,q2,q3,W6 (show s.Told.length≤60 by omega)];simp)
 refine R10 ?_;refine E8 [(1,_),(31,_),(32,_)] _ (fun (i:Nat)=>i≤s.Cells.length∧(s.Cells.all fun c=>decide (O5 s.Cells c.Key≤s.Floor))=((s.Cells.drop i).all fun c=>decide (O5 s.Cells c.Key≤s.Floor))) (fun i=>[]) (fun i=>[(33,AV.int i)]) (fun i=>s.Cells.length-i) (0) ?_ (G2 A6) ?_
 ·exact zq4
 intro i hinv;refine zK ?_ ?_
 ·intro h34 k34;have hlt:i<s.Cells.length:=by omega
  obtain⟨c,hx⟩:=B2 hlt;refine R5 ?_;refine zq71 ?_;intro b4;refine R8 ?_;refine B3 rfl rfl (zG rfl call330 (BZ4 _ _ (by first|assumption|exact AJ6 (by rw[AJ5];assumption)) X9) (A2 (A0 rfl) (A2 (A0 rfl) A9))) ?_;refine zK ?_ ?_
  ·intro h44 k44;have hfin:V1 s=false:=by (rw[hgs,hinv.2,J8 hx,AA7,AC1 (show ¬O5 s.Cells c.Key≤s.Floor by omega)];rfl)
   exact zq60
  intro h44 k44;refine R5 ?_;refine F1 i (i+1) ?_ ?_ (T4 1 A6)
  ·exact⟨by omega,by rw[hinv.2,J8 hx,AA7,W6 (show O5 s.Cells c.Key≤s.Floor by omega)];rfl⟩
  omega
 intro h34 k34;have hge:s.Cells.length≤i:=by omega
 have hgs2:V1 s=BE7 s.Told.length (Ai6 s):=by (rw[hgs,hinv.2,r9 hge];rfl)
 refine R10 ?_;refine E8 [(1,_),(47,_),(48,_)] _ (fun (q:Nat)=>q≤s.Told.length∧∀j,j<q→Ai6 s j=true) (fun q=>[]) (fun q=>[(49,AV.int q)]) (fun q=>s.Told.length-q) (0) ?_ (G2 A6) ?_
 ·exact⟨E4 _,fun j hj=>by omega⟩
 intro q hinv;refine zK ?_ ?_
 ·intro h50 k50;have hlt:q<s.Told.length:=by omega
  obtain⟨t,hx⟩:=B2 hlt;obtain⟨y,hy⟩:=B2 (show q-1<s.Told.length by omega);refine R6 ?_;refine A1 rfl (C2 rfl K7 Q2 zA zA hx qz1) ?_;refine R2 ?_;intro b6;refine R8 ?_;refine B3 rfl rfl (zG rfl call87 (T7 _ _ _) AR5) ?_;refine R9 ?_;refine M1 rfl (Y9 rfl rfl rfl) (fun hc=>C2 rfl K7 Q2 (A7 rfl hc) (A7 rfl hc) hy qz6) ?_;refine R15 ?_;refine M1 rfl (Y9 rfl rfl rfl) (fun hc=>zG rfl call87 (T7 _ _ _) zS) ?_;refine zC ?_ ?_
  ·intro h95;have hfin:V1 s=false:=by (rw[hgs2];exact AP8 hlt (by rw[Bi3 hx hy,h95];rfl))
   exact zq60
  intro h95;refine R6 ?_;refine zF rfl call94 (Ae0 _ _ X9) (A2 (A0 rfl) (A2 (A0 rfl) A9)) ?_;refine R4 ?_;intro b7;refine zC ?_ ?_
  ·intro h103;have hfin:V1 s=false:=by (rw[hgs2];exact AP8 hlt (by rw[Bi3 hx hy,←Bq8,h103];simp))
   exact zq60
  intro h103;refine R5 ?_;refine F1 q (q+1) ?_ ?_ (T4 2 A6)
  ·exact⟨by omega,fun j hj=>if hji:j<q then hinv.2 j hji else (by have e:j=q:=qz7;subst e;rw[Bi3 hx hy,h95,←Bq8,h103];rfl)⟩
  omega
 intro h50 k50;have hge:s.Told.length≤q:=by omega
 have hfin:V1 s=true:=by (rw[hgs2];exact An3.2 fun j hj=>hinv.2 j qz7)
 refine R6 ?_;exact D1 rfl (A5 rfl BC3)
end Go.PQ
namespace Go.PQ
open Go.Proofs Go.Proofs.Tryz
open Go Go.AV Go.M
attribute [local irreducible] OpW OpA OpS AWP J6 L6 K3 OpE K4 I5 L0 Le Ev G4 L9
theorem BS5 (v:Value)(l:List B1)(w:B1)(hl:l.length≤4194303):M0 210 [AV.is v,AV.agg w.cs] [.arr v 248 3 (l.map B1.cs)] (fun _:Value=>True) (fun v=>[.arr v 248 3 ((CF5 l w).map B1.cs)]) (fun v=>AV.is v):=by
 have hle:=DK0 l w.Key;refine C8 func210 rfl ntmps210 rfl ?_;refine R3 ?_;intro b3;refine zq88 ?_;refine R6 ?_;refine A1 rfl (n2 rfl call258 rfl (BD9 l w.Key qz7) (Ab3 (I8 (n7 _ _) (I8 (T9 _) W9))) (N7 (BQ1 1 zA rfl) Ax6)) ?_;refine zC ?_ ?_
 ·intro h14;obtain⟨y,hy,_⟩:=BR6.1 h14;have hlt:=(G1.1 hy).1;have he:CF5 l w=l.set (Ae7 l w.Key) w:=by unfold CF5;rw[D9 h14]
  rw[he];refine R5 ?_;refine A1 rfl (I4 1 rfl G5 M8 zA rfl zA qz7 Bu6) ?_;refine e8 1 rfl rfl rfl zA zA (e6 _) rfl M8 rfl Bu6 ?_;refine R7 ?_;exact I9 [1] v (trivial) rfl (by first|rfl|exact F2 (fun z=>[Own.arr _ 248 3 z]) AF4) (O2 rfl (A5 rfl W5))
 intro h14;have he:CF5 l w=l.take (Ae7 l w.Key)++w::l.drop (Ae7 l w.Key):=by unfold CF5;rw[D0 (by rw[h14];decide)]
 rw[he];refine R6 ?_;refine Ap0 rfl rfl rfl rfl G5 M8 zeroValue248 rfl rfl rfl rfl (B6 zA (e6 _) N6) rfl rfl ?_;intro v23;refine zI [2,0] rfl call259 (CJ0 _ _ l w (Ae7 l w.Key) hle qz7) (A2 (A0 rfl) (A2 (A0 rfl) (A2 (A0 rfl) A9))) rfl ?_;intro x24 ok24;refine R3 ?_;exact I9 [0] x24 (trivial) rfl (by first|rfl|exact F2 (fun z=>[Own.arr _ 248 3 z]) AF4) (O2 rfl (A5 rfl W5))
theorem DS5 (l:List B1)(w:B1)(hl:l.length≤4194303):M0 226 [AV.list 3 (l.map B1.cs),AV.agg w.cs] [] (fun _:Value=>True) (fun v=>[.arr v 248 3 ((Bk0 l w).map B1.cs)]) (fun v=>AV.is v):=by
 refine C8 func226 rfl ntmps226 rfl ?_;refine R3 ?_;intro b3;refine zq88 ?_;refine R9 ?_;rw[show (List.map B1.cs l).length=l.length from A8 _];refine E8 [(0,_),(3,_),(4,_)] _ (fun (i:Int)=>0≤i∧i≤l.length∧AN0 l w.Key l.length=AN0 l w.Key i.toNat) (fun i=>[]) (fun i=>[(5,AV.int i)]) (fun i=>i.toNat) (l.length) ?_ (G2 A6) ?_
 ·exact⟨by omega,by omega,rfl⟩
 intro i hinv;obtain⟨y,hy⟩:=Aw1 l (i-1).toNat;refine R9 ?_;refine M1 rfl (Q3 rfl rfl rfl) (fun hc=>C2 rfl G5 M8 (A7 rfl hc) (A7 rfl hc) (hy qz6) qz6) ?_;refine R4 ?_;refine M1 rfl (Q3 rfl rfl rfl) (fun hc=>CG9 rfl (A7 rfl hc) (A7 rfl hc)) ?_;refine zC ?_ ?_
 ·intro h22;have hb:0<i∧Op.bytesLess w.Key y.Key=true:=by rw[Ba7]at h22;simpa using h22
  have hst:AN0 l w.Key l.length=AN0 l w.Key (i-1).toNat:=by rw[hinv.2.2];obtain⟨n,rfl⟩:∃n:Nat,i=n+1:=⟨(i-1).toNat,by omega⟩;rw[show ((n:Int)+1).toNat=n+1 by omega,show ((n:Int)+1-1).toNat=n by omega];exact DO5 (by have:=hy qz7;rwa [show ((n:Int)+1-1).toNat=n by omega]at this) hb.2
  refine R7 ?_;refine Al8 ?_;refine F1 i (i-1) ?_ ?_ (G2 A6)
  ·exact⟨by omega,by omega,hst⟩
  omega
 intro h22;obtain⟨k,rfl⟩:∃k:Nat,i=k:=⟨i.toNat,by omega⟩;have hk:AN0 l w.Key l.length=k:=by rw[hinv.2.2,o5];rw[Ba7]at h22;rcases Nat.eq_zero_or_pos k with h0|h0;subst h0;rfl;(obtain⟨n,rfl⟩:∃n,k=n+1:=⟨k-1,by omega⟩;exact DO6 (by have:=hy qz7;rwa [show (((n+1:Nat):Int)-1).toNat=n by omega]at this) BU5)
 have hh:CX1 l w.Key k=(decide (0<k)&&(y.Key==w.Key)):=by rcases Nat.eq_zero_or_pos k with h0|h0;subst h0;rfl;(obtain⟨n,rfl⟩:∃n,k=n+1:=⟨k-1,by omega⟩;have h9:=hy qz7;rw[show (((n+1:Nat):Int)-1).toNat=n by omega]at h9;simp[CX1,h9])
 refine R10 ?_;refine M1 rfl (Q3 rfl rfl rfl) (fun hc=>C2 rfl G5 M8 (A7 rfl hc) (A7 rfl hc) (hy qz6) qz6) ?_;refine zC ?_ ?_
 ·intro h37;have hb:0<k∧y.Key=w.Key:=by simpa using h37
  have he:Bk0 l w=l.set (k-1) w:=by unfold Bk0;rw[hk,D9 (by rw[hh];simp[hb])]
  rw[he];refine R2 ?_;refine S3 rfl rfl rfl rfl G5 M8 ?_;intro v38;refine R1 ?_;refine I0 (by':=40) 0 rfl rfl rfl rfl G5 type248 rfl rfl rfl rfl rfl rfl zA zA rfl qz1 ?_;intro v40_1;refine R8 ?_;refine A1 rfl (I4 0 rfl G5 M8 zA rfl zA qz7 (by simp only[AI0,A8];omega)) ?_;refine e8 0 rfl rfl rfl zA zA (e6 _) rfl M8 rfl (by simp only[AI0,A8];omega) ?_;refine R7 ?_;exact I9 [0] v40_1 (trivial) rfl qz142 (O2 rfl (A5 rfl W5))
 intro h37;have he:Bk0 l w=l.take k++w::l.drop k:=by unfold Bk0;rw[hk,D0 (by rw[hh];simpa using h37)]
 rw[he];refine zq204 ?_;intro v47;refine R2 ?_;refine A1 rfl (BV5 rfl G5 M8 zA zA qz1 qz1) ?_;refine I0 (by':=40) 0 rfl rfl rfl rfl G5 type248 rfl rfl rfl rfl rfl rfl zA zA rfl CQ6 ?_;intro v51_2;refine Bv3 (AI8 [0] 51 rfl rfl (K2 (C3 (i:=0) rfl) G3) M6) ?_;refine R3 ?_;refine zq67 ?_;refine R2 ?_;refine N0 rfl rfl rfl (fun ext=>AG5 rfl G5 M8 zA zA qz1 qz1) ?_;refine R3 ?_;refine U2 rfl rfl rfl (AC3 rfl G5 M8) (fun a _=>qz3) ?_;intro v52 _;refine zq100 ?_;intro v56_3 _;refine zq100 ?_;intro v59_4 _;refine zq100 ?_;intro v61_5 _;refine R4 ?_;exact I9 [1] v61_5 (trivial) rfl qz142 (O2 rfl (A5 rfl W5))
theorem Br0 (a b:Int):D6 89 [AV.int a,AV.int b] (AV.int (As0 a b)):=by
 refine B0 Tryz.func89 rfl Tryz.ntmps89 rfl ?_;refine zK ?_ ?_
 ·intro h7 k7;have he:As0 a b=a:=by unfold As0;rw[D9 k7]
  rw[he];refine R6 ?_;exact zq16
 intro h7 k7;have he:As0 a b=b:=by unfold As0;rw[D0 k7]
 rw[he];refine R7 ?_;exact zq16
attribute [local irreducible] Int.tmod Int.tdiv IntKind.wrap
theorem CK4 (s:E1)(rs:List Str)(ws:List B1)(hs:s.size≤400000)(hw:D2 B1.size ws≤400000):D6 282 [AV.agg s.cs,strs rs,AV.list 3 (ws.map B1.cs)] (AV.bool (fits s rs ws)):=by
 obtain⟨hs1,hs2,hs3,hs4,hs5⟩:=AB6 hs;have hrm:room s.Cells (ws++hWs s.Held)=room s.Cells (hWs s.Held++ws):=Ca3 fun w=>by rw[y6,y6,or_comm]
 refine B0 func282 rfl ntmps282 rfl ?_;refine R3 ?_;intro b3;refine R11 ?_;refine E8 [(1,_),(2,_),(3,_),(10,_),(11,_)] _ (fun (i:Nat)=>i≤s.Held.length∧(s.Held.all fun h=>apart h rs ws)=((s.Held.drop i).all fun h=>apart h rs ws)) (fun i=>[]) (fun i=>[(12,AV.int i)]) (fun i=>s.Held.length-i) (0) ?_ (G2 A6) ?_
 ·exact zq4
 intro i hinv;refine zK ?_ ?_
 ·intro h13 k13;have hlt:i<s.Held.length:=by omega
  obtain⟨h,hx⟩:=B2 hlt;refine zq27 ?_;intro b8;refine R7 ?_;refine zF rfl call328 (apart_spec _ _ _) AD5 ?_;refine zC ?_ ?_
  ·intro h20;have hfin:fits s rs ws=false:=by (unfold fits;rw[hinv.2,J8 hx,AA7,show apart h rs ws=false by simpa using h20];rfl)
   refine R5 ?_;exact D1 rfl (A5 rfl qz151)
  intro h20;refine R5 ?_;refine F1 i (i+1) ?_ ?_ (T4 1 A6)
  ·exact⟨by omega,by rw[hinv.2,J8 hx,AA7,show apart h rs ws=true by simpa using h20];rfl⟩
  omega
 intro h13 k13;have hge:s.Held.length≤i:=by omega
 have hap:(s.Held.all fun h=>apart h rs ws)=true:=by (rw[hinv.2,r9 hge];rfl)
 refine R10 ?_;refine L5 rfl (fun hc=>zG rfl call329 (DS3 _ _ X9 X9) (A2 (A7 rfl hc) (A2 (A7 rfl hc) A9))) ?_;refine R4 ?_;exact D1 rfl (A5 rfl qz151)
theorem DE0 (h:E0)(hs:h.size≤1048576):M0 327 [AV.agg h.cs] [] (fun _:Value×Value=>True) (fun x=>E0.ow h x) (fun x=>AV.agg (E0.ocs h x)):=by
  have h3:=M7 (f:=fun x:Str=>x.length) (l:=h.Reads);have h4:=M7 (f:=B1.size) (l:=h.Writes);have h5:h.size=D2 (fun x=>x.length) h.Reads+D2 B1.size h.Writes:=rfl;refine C8 func327 rfl ntmps327 rfl ?_;refine R3 ?_;intro b1;refine R1 ?_;intro b2;refine R5 ?_;refine zI [] rfl call48 (BN9 h.Reads qz7) G6 rfl ?_;intro x5 ok5;refine R1 ?_;refine O7 0 rfl fun one_x5=> ?_;refine N2 2 rfl rfl rfl zA zA (F6 one_x5) rfl AA0 rfl ?_;refine zq204 ?_;intro v7;refine R2 ?_;refine I0 (by':=40) 0 rfl rfl rfl rfl G5 type248 rfl rfl rfl rfl rfl rfl zA zA rfl Be4 ?_;intro v10_1;refine R1 ?_;refine O7 0 rfl fun one_v10_1=> ?_;refine N2 3 rfl rfl rfl zA zA (F6 one_v10_1) rfl sizeOf123 rfl ?_;refine R7 ?_;exact I9 [1,0] (x5,v10_1) (trivial) rfl B7 (O2 rfl (F5 (ys:=_) 2 rfl rfl Ae4 O0 rfl))
theorem BS6 (h:E0)(hs:h.size≤1048576):D6 327 [AV.agg h.cs] (AV.agg h.cs):=
  J5 (DE0 h hs) fun x _=>AO7 (E0.lc h x)
theorem DE1 (l:List B8)(hs:D2 B8.size l≤4194304):D6 326 [AV.list 2 (l.map B8.cs)] (AV.list 2 (l.map B8.cs)):=
  J5 (Cb7 l hs) fun x h=>Ah1 B8.lcM h 0 rfl fun o ho=>U5 _ ho
theorem Ct7 (s:E1)(hs:s.size≤1048576):M0 280 [AV.agg s.cs] [] (fun _:Value×Value=>True) (fun x=>E1.ow s x) (fun x=>AV.agg (E1.ocs s x)):=by
 obtain⟨hs1,hs2,hs3,hs4,hs5⟩:=AB6 hs;refine C8 func280 rfl ntmps280 rfl ?_;refine R3 ?_;intro b1;refine R1 ?_;intro b2;refine R2 ?_;refine Z9 _ 11 (.pure 0 (.pure 1 (.pure 2 (.pure 3 (.pure 4 (.pure 6 (.pure 7 (.e2 5 (.e2 8 (.pure 9 (.e1 10 .nil)) 10 (.e1 8 (.pure 9 .nil))) 10 (.e1 5 (.e1 8 (.pure 9 .nil))))))))))) E3 E3 rfl AZ1 ?_;refine R4 ?_;refine N8 rfl rfl rfl (fun ext=>zG rfl call326 (DE1 s.Cells qz7) G6) ?_;refine R2 ?_;refine AR7 ?_ ?_
 ·refine F7 rfl rfl rfl (AC3 rfl K7 Q2) (fun a _=>qz3) ?_;intro v11 _;refine AR7 ?_ ?_
  ·refine zq200 ?_;intro v14_1 hone_v14_1;have one_v14_1:=hone_v14_1.2;refine N8 rfl rfl rfl (fun ext=>Q7 (places:=#[(0,1),(1,1),(2,1),(3,1)]) rfl AA3 zeroValue64 (fun w=>by kernel_rfl) rfl (B6 zA (X2 _ _) (B6 zA (S8 _ _) (B6 zA (F6 one_v14_1) N6))) rfl) ?_;refine R1 ?_;refine F7 rfl rfl rfl (S4 rfl zeroValue64 rfl) (fun a _=>qz3) ?_;intro b3 _;refine R12 ?_;refine X5 144 5 ?_;refine zL [4,0] ?_;refine K5 [(2,_),(3,_),(17,_),(18,_)] _ (fun (i:Nat) (v:Value)=>i≤s.Held.length) (fun i v=>[.box b3 64 [AV.int s.Floor,AV.list 2 (s.Cells.map B8.cs),AV.is v,AV.is v14_1],.arr v 144 5 ((s.Held.take i).map E0.cs)]) (fun i v=>[(19,AV.int i)]) (fun i v=>s.Held.length-i) (0) ((E6)) ?_ (I1 B7 A6) ?_
   ·exact E4 _
   intro i v hinv;refine zK ?_ ?_
   ·intro h20 k20;have hlt:i<s.Held.length:=by omega
    obtain⟨h,hx⟩:=B2 hlt;obtain⟨g1,g2,g3,g4,g5⟩:=AM0 hs2 hx;refine zq27 ?_;intro b5;refine R2 ?_;refine zq56 ?_;intro v28_2;refine R1 ?_;refine O7 2 rfl fun one_v28_2=> ?_;refine N2 1 rfl rfl rfl zA zA (F6 one_v28_2) rfl AM9 rfl ?_;refine R5 ?_;refine H5 i v (i+1) (v28_2) ?_ ?_ (Le.trans (B4 [0,0,0] rfl) (D5 1 (by exact F2 (fun z=>Own.box b3 64 [AV.int s.Floor,AV.list 2 (s.Cells.map B8.cs),AV.is v28_2,AV.is v14_1]::Own.arr v28_2 144 5 z::_) (AS5 (f:=E0.cs) hx)) A6))
    ·omega
    omega
   intro h20 k20;have hge:i=s.Held.length:=by omega
   rw[hge,AO5];refine R7 ?_;exact I9 [1,3] (v,v14_1) (trivial) rfl B7 (O2 rfl (F5 (ys:=_) 2 rfl rfl S5 K8 rfl))
  refine F7 rfl rfl rfl (S4 rfl zeroValue64 rfl) (fun a _=>qz3) ?_;intro b3 _;refine R1 ?_;refine zq200 ?_;intro v14_3 hone_v14_3;have one_v14_3:=hone_v14_3.2;refine N8 rfl rfl rfl (fun ext=>Q7 (places:=#[(0,1),(1,1),(2,1),(3,1)]) rfl AA3 zeroValue64 (fun w=>by kernel_rfl) rfl (B6 zA (X2 _ _) (B6 zA (S8 _ _) (B6 zA (F6 one_v14_3) N6))) rfl) ?_;refine R12 ?_;refine X5 144 5 ?_;refine zL [4,0] ?_;refine K5 [(2,_),(3,_),(17,_),(18,_)] _ (fun (i:Nat) (v:Value)=>i≤s.Held.length) (fun i v=>[.box b3 64 [AV.int s.Floor,AV.list 2 (s.Cells.map B8.cs),AV.is v,AV.is v14_3],.arr v 144 5 ((s.Held.take i).map E0.cs)]) (fun i v=>[(19,AV.int i)]) (fun i v=>s.Held.length-i) (0) ((E6)) ?_ (I1 B7 A6) ?_
  ·exact E4 _
  intro i v hinv;refine zK ?_ ?_
  ·intro h20 k20;have hlt:i<s.Held.length:=by omega
   obtain⟨h,hx⟩:=B2 hlt;obtain⟨g1,g2,g3,g4,g5⟩:=AM0 hs2 hx;refine zq27 ?_;intro b5;refine R2 ?_;refine zq56 ?_;intro v28_4;refine R1 ?_;refine O7 2 rfl fun one_v28_4=> ?_;refine N2 1 rfl rfl rfl zA zA (F6 one_v28_4) rfl AM9 rfl ?_;refine R5 ?_;refine H5 i v (i+1) (v28_4) ?_ ?_ (Le.trans (B4 [0,0,0] rfl) (D5 1 (by exact F2 (fun z=>Own.box b3 64 [AV.int s.Floor,AV.list 2 (s.Cells.map B8.cs),AV.is v28_4,AV.is v14_3]::Own.arr v28_4 144 5 z::_) (AS5 (f:=E0.cs) hx)) A6))
   ·omega
   omega
  intro h20 k20;have hge:i=s.Held.length:=by omega
  rw[hge,AO5];refine R7 ?_;exact I9 [1,3] (v,v14_3) (trivial) rfl B7 (O2 rfl (F5 (ys:=_) 2 rfl rfl S5 K8 rfl))
 refine F7 rfl rfl rfl (S4 rfl zeroValue64 rfl) (fun a _=>qz3) ?_;intro b3 _;refine R1 ?_;refine F7 rfl rfl rfl (AC3 rfl K7 Q2) (fun a _=>qz3) ?_;intro v11 _;refine R1 ?_;refine F7 rfl rfl rfl (J2 3 (fun _=>rfl) (N3 (by':=24) 3 rfl K7 type118 rfl rfl rfl rfl rfl rfl zA zA rfl Be4)) (fun a _=>qz3) ?_;intro v14_5 hone_v14_5;have one_v14_5:=hone_v14_5.2;refine N8 rfl rfl rfl (fun ext=>Q7 (places:=#[(0,1),(1,1),(2,1),(3,1)]) rfl AA3 zeroValue64 (fun w=>by kernel_rfl) rfl (B6 zA (X2 _ _) (B6 zA (S8 _ _) (B6 zA (F6 one_v14_5) N6))) rfl) ?_;refine R12 ?_;refine X5 144 5 ?_;refine zL [3,0] ?_;refine K5 [(2,_),(3,_),(17,_),(18,_)] _ (fun (i:Nat) (v:Value)=>i≤s.Held.length) (fun i v=>[.box b3 64 [AV.int s.Floor,AV.list 2 (s.Cells.map B8.cs),AV.is v,AV.is v14_5],.arr v 144 5 ((s.Held.take i).map E0.cs)]) (fun i v=>[(19,AV.int i)]) (fun i v=>s.Held.length-i) (0) ((E6)) ?_ (I1 B7 A6) ?_
 ·exact E4 _
 intro i v hinv;refine zK ?_ ?_
 ·intro h20 k20;have hlt:i<s.Held.length:=by omega
  obtain⟨h,hx⟩:=B2 hlt;obtain⟨g1,g2,g3,g4,g5⟩:=AM0 hs2 hx;refine zq27 ?_;intro b5;refine R2 ?_;refine zq56 ?_;intro v28_6;refine R1 ?_;refine O7 2 rfl fun one_v28_6=> ?_;refine N2 1 rfl rfl rfl zA zA (F6 one_v28_6) rfl AM9 rfl ?_;refine R5 ?_;refine H5 i v (i+1) (v28_6) ?_ ?_ (Le.trans (B4 [0,0,0] rfl) (D5 1 (by exact F2 (fun z=>Own.box b3 64 [AV.int s.Floor,AV.list 2 (s.Cells.map B8.cs),AV.is v28_6,AV.is v14_5]::Own.arr v28_6 144 5 z::_) (AS5 (f:=E0.cs) hx)) A6))
  ·omega
  omega
 intro h20 k20;have hge:i=s.Held.length:=by omega
 rw[hge,AO5];refine R7 ?_;exact I9 [1,3] (v,v14_5) (trivial) rfl B7 (O2 rfl (F5 (ys:=_) 2 rfl rfl S5 K8 rfl))
theorem Cg6 (s:E1)(hs:s.size≤1048576):D6 280 [AV.agg s.cs] (AV.agg s.cs):=
  J5 (Ct7 s hs) fun x _=>AO7 (E1.lc s x)
theorem less_own (l:List E0)(n:Int)(hl:l.length≤1048576):M0 284 [AV.list 5 (l.map E0.cs),AV.int n] [] (fun _:Value=>True) (fun v=>[.arr v 144 5 ((AC2 l n).map E0.cs)]) (fun v=>AV.is v):=by
 refine C8 func284 rfl ntmps284 rfl ?_;refine zq149 ?_;refine n1 144 5 rfl rfl rfl rfl L2 ?_;intro v5;refine R9 ?_;refine W1 [(1,_),(4,_),(8,_),(9,_)] _ (fun (i:Nat) (v:Value) (q:List E0)=>i≤l.length∧q=AC2 (l.take i) n∧q.length≤i) (fun i v q=>[.arr v 144 5 (q.map E0.cs)]) (fun i v q=>[(5,AV.is v),(10,AV.int i)]) (fun i v q=>l.length-i) (0) (v5) ([]) ?_ (I1 B7 A6) ?_
 ·exact⟨E4 _,rfl,K9 _⟩
 intro i v q hinv;refine zK ?_ ?_
 ·intro h11 k11;have hlt:i<l.length:=by omega
  obtain⟨h,hx⟩:=B2 hlt;refine zq27 ?_;intro b7;refine zC ?_ ?_
  ·intro h17;refine R4 ?_;refine I0 (by':=72) 1 rfl rfl rfl rfl H1 type144 rfl rfl rfl rfl rfl rfl zA zA rfl qz1 ?_;intro v21_1;refine R6 ?_;refine Q8 i v q (i+1) (v21_1) (q++[h]) ?_ ?_ (Le.trans (B4 [0,0] rfl) (D5 1 Ck2 A6))
   ·first|exact⟨by omega,by rw[BW3 hx,D9 h17,hinv.2.1],by rw[I2];simp;omega⟩|exact⟨by omega,by rw[BW3 hx,D0 (by rw[h17];decide),hinv.2.1],by omega⟩
   omega
  intro h17;refine R5 ?_;refine Q8 i v q (i+1) (v) (q) ?_ ?_ (Le.trans (B4 [0,0] rfl) (D5 1 Ck2 A6))
  ·first|exact⟨by omega,by rw[BW3 hx,D9 h17,hinv.2.1],by rw[I2];simp;omega⟩|exact⟨by omega,by rw[BW3 hx,D0 (by rw[h17];decide),hinv.2.1],by omega⟩
  omega
 intro h11 k11;have hge:l.length≤i:=by omega
 have hq:=hinv.2.1;rw[S7 hge]at hq;rw[←hq];exact zq118
theorem Cc1 (l:List E0)(n:Int)(hl:l.length≤1048576):D6 284 [AV.list 5 (l.map E0.cs),AV.int n] (AV.list 5 ((AC2 l n).map E0.cs)):=
  J5 (less_own l n hl) fun x _=>K2 (i6.2 rfl) G3
theorem put_csH (l:List E0)(k:Nat)(x:E0):(l.take k++x::l.drop k).map E0.cs=[]++(l.take (k:Int).toNat).map E0.cs++[x.cs]++([]++(l.drop (k:Int).toNat).map E0.cs):=by simp
theorem DE2 (l:List E0)(h:E0)(hs:l.Pairwise fun a b=>a.Txn<b.Txn)(hl:l.length≤1048576):M0 281 [AV.list 5 (l.map E0.cs),AV.agg h.cs] [] (fun _:Value=>True) (fun v=>[.arr v 144 5 ((Ac2 h l).map E0.cs)]) (fun v=>AV.is v):=by
 refine C8 func281 rfl ntmps281 rfl ?_;refine R3 ?_;intro b3;refine zq88 ?_;refine R9 ?_;refine E8 [(0,_),(3,_),(4,_)] _ (fun (k:Nat)=>k≤l.length∧∀i y,k≤i→l[i]? =some y→h.Txn<y.Txn) (fun k=>[]) (fun k=>[(5,AV.int k)]) (fun k=>k) (l.length) ?_ (G2 ⟨F2 (fun z=>some (AV.int z)) (by rw[A8]),rfl,rfl,rfl,trivial⟩) ?_
 ·exact⟨K9 _,fun i y h1 h2=>by (have:=(G1.1 h2).1;omega)⟩
 intro k hinv;obtain⟨y,hy0⟩:∃y:E0,0<k→l[k-1]? =some y:=by (by_cases h9:0<k;(have h8:=hinv.1;exact⟨_,fun _=>Q5 (show k-1<l.length by omega)⟩);exact⟨h,fun h8=>absurd h8 h9⟩)
 have hk1:0<k→((k:Int)-1).toNat=k-1:=fun _=>by omega
 refine R9 ?_;refine M1 rfl (Q3 rfl rfl rfl) (fun hc=>AX5 rfl H1 O0 (A7 rfl hc) (A7 rfl hc) (by have:=AB7 hc;have:=hinv.1;omega) (by have h9:=AB7 hc;rw[hk1 qz7,a8,hy0 qz7];rfl)) ?_;refine zC ?_ ?_
 ·intro h21;have hkt:0<k∧h.Txn<y.Txn:=by simpa using h21
  refine R7 ?_;refine Al8 ?_;refine F1 k (k-1) ?_ ?_ (G2 ⟨F2 (fun z=>some (AV.int z)) qz7,rfl,rfl,rfl,trivial⟩)
  ·exact zq117
  omega
 intro h21;have hng:0<k→¬h.Txn<y.Txn:=fun h9=>by simpa [h9]using h21
 have hput:Ac2 h l=l.take k++h::l.drop k:=Bq6 hinv.1 (fun i x hi hx=>by have h7:=hy0 qz7;have h8:=hng qz7;rcases Nat.lt_or_ge i (k-1)with h6|h6;(have:=BQ4 (f:=E0.Txn) hs h6 hx h7;omega);(have:i=k-1:=qz7;subst this;rw[hx]at h7;injection h7 with h7;subst h7;omega)) (fun x hx=>hinv.2 k x (K9 _) hx);rw[hput];refine R3 ?_;refine S3 rfl rfl rfl rfl H1 O0 ?_;intro v24;refine R2 ?_;refine A1 rfl (BV5 rfl H1 O0 zA zA qz7 Aj9) ?_;refine I0 (by':=72) 0 rfl rfl rfl rfl H1 type144 rfl rfl rfl rfl rfl rfl zA zA rfl (by simp only[T5,A8,AB9];omega) ?_;intro v28_1;refine R3 ?_;refine AWP.le (AI8 [0] 6 rfl rfl (K2 (C3 (i:=0) rfl) G3) M6) ?_;refine zq67 ?_;refine R2 ?_;refine N0 rfl rfl rfl (fun ext=>AG5 rfl H1 O0 zA zA qz7 Aj9) ?_;refine R3 ?_;refine U2 rfl rfl rfl (AC3 rfl H1 O0) (fun a _=>qz3) ?_;intro v29 _;refine zq99 ?_;intro v33_2 _;refine zq99 ?_;intro v36_3 _;refine zq99 ?_;intro v38_4 _;refine R4 ?_;exact I9 [1] v38_4 (trivial) rfl (by first|rfl|exact F2 (fun z=>[Own.arr _ 144 5 z]) (put_csH _ _ _)) (O2 rfl (A5 rfl B7))
theorem Ct8 (l:List E0)(h:E0)(hs:l.Pairwise fun a b=>a.Txn<b.Txn)(hl:l.length≤1048576):D6 281 [AV.list 5 (l.map E0.cs),AV.agg h.cs] (AV.list 5 ((Ac2 h l).map E0.cs)):=
  J5 (DE2 l h hs hl) fun x _=>K2 (i6.2 rfl) G3
theorem put_csT (l:List H2)(k:Nat)(x:H2):(l.take k++x::l.drop k).map H2.cs=[]++(l.take (k:Int).toNat).map H2.cs++[x.cs]++([]++(l.drop (k:Int).toNat).map H2.cs):=by simp
theorem DE3 (l:List H2)(h:H2)(hs:l.Pairwise fun a b=>a.Txn<b.Txn)(hl:l.length≤1048576):M0 285 [AV.list 3 (l.map H2.cs),AV.agg h.cs] [] (fun _:Value=>True) (fun v=>[.arr v 118 3 ((AY1 h l).map H2.cs)]) (fun v=>AV.is v):=by
 refine C8 func285 rfl ntmps285 rfl ?_;refine R3 ?_;intro b3;refine zq88 ?_;refine R9 ?_;refine E8 [(0,_),(3,_),(4,_)] _ (fun (k:Nat)=>k≤l.length∧∀i y,k≤i→l[i]? =some y→h.Txn<y.Txn) (fun k=>[]) (fun k=>[(5,AV.int k)]) (fun k=>k) (l.length) ?_ (G2 ⟨F2 (fun z=>some (AV.int z)) (by rw[A8]),rfl,rfl,rfl,trivial⟩) ?_
 ·exact⟨K9 _,fun i y h1 h2=>by (have:=(G1.1 h2).1;omega)⟩
 intro k hinv;obtain⟨y,hy0⟩:∃y:H2,0<k→l[k-1]? =some y:=by (by_cases h9:0<k;(have h8:=hinv.1;exact⟨_,fun _=>Q5 (show k-1<l.length by omega)⟩);exact⟨h,fun h8=>absurd h8 h9⟩)
 have hk1:0<k→((k:Int)-1).toNat=k-1:=fun _=>by omega
 refine R9 ?_;refine M1 rfl (Q3 rfl rfl rfl) (fun hc=>AX5 rfl K7 Q2 (A7 rfl hc) (A7 rfl hc) (by have:=AB7 hc;have:=hinv.1;omega) (by have h9:=AB7 hc;rw[hk1 qz7,a8,hy0 qz7];rfl)) ?_;refine zC ?_ ?_
 ·intro h21;have hkt:0<k∧h.Txn<y.Txn:=by simpa using h21
  refine R7 ?_;refine Al8 ?_;refine F1 k (k-1) ?_ ?_ (G2 ⟨F2 (fun z=>some (AV.int z)) qz7,rfl,rfl,rfl,trivial⟩)
  ·exact zq117
  omega
 intro h21;have hng:0<k→¬h.Txn<y.Txn:=fun h9=>by simpa [h9]using h21
 have hput:AY1 h l=l.take k++h::l.drop k:=Bq7 hinv.1 (fun i x hi hx=>by have h7:=hy0 qz7;have h8:=hng qz7;rcases Nat.lt_or_ge i (k-1)with h6|h6;(have:=BQ4 (f:=H2.Txn) hs h6 hx h7;omega);(have:i=k-1:=qz7;subst this;rw[hx]at h7;injection h7 with h7;subst h7;omega)) (fun x hx=>hinv.2 k x (K9 _) hx);rw[hput];refine R3 ?_;refine S3 rfl rfl rfl rfl K7 Q2 ?_;intro v24;refine R2 ?_;refine A1 rfl (BV5 rfl K7 Q2 zA zA qz7 Aj9) ?_;refine I0 (by':=24) 0 rfl rfl rfl rfl K7 type118 rfl rfl rfl rfl rfl rfl zA zA rfl (by simp only[T5,A8,AB9];omega) ?_;intro v28_1;refine R3 ?_;refine AWP.le (AI8 [0] 6 rfl rfl (K2 (C3 (i:=0) rfl) G3) M6) ?_;refine zq67 ?_;refine R2 ?_;refine N0 rfl rfl rfl (fun ext=>AG5 rfl K7 Q2 zA zA qz7 Aj9) ?_;refine R3 ?_;refine U2 rfl rfl rfl (AC3 rfl K7 Q2) (fun a _=>qz3) ?_;intro v29 _;refine zq104 ?_;intro v33_2 _;refine zq104 ?_;intro v36_3 _;refine zq104 ?_;intro v38_4 _;refine R4 ?_;exact I9 [1] v38_4 (trivial) rfl (by first|rfl|exact F2 (fun z=>[Own.arr _ 118 3 z]) (put_csT _ _ _)) (O2 rfl (A5 rfl B7))
theorem Br1 (l:List H2)(h:H2)(hs:l.Pairwise fun a b=>a.Txn<b.Txn)(hl:l.length≤1048576):D6 285 [AV.list 3 (l.map H2.cs),AV.agg h.cs] (AV.list 3 ((AY1 h l).map H2.cs)):=
  J5 (DE3 l h hs hl) fun x _=>K2 (i6.2 rfl) G3
theorem DE4 (l:List B8)(w:List B1)(t:Int)(ho:AN8 l)(hs:D2 B8.size l≤1048576)(hw:D2 B1.size w≤1048576)(ht1:1≤t):D6 283 [AV.list 2 (l.map B8.cs),AV.list 3 (w.map B1.cs),AV.int t] (AV.tup [AV.list 2 ((AL8 l w t).1.map B8.cs),AV.bool (AL8 l w t).2]):=
  J5 (Db7 l w t ho hs hw ht1) fun x h=>AQ7 (D7 (Ah1 B8.lcM h 0 rfl fun o ho=>U5 _ ho) (D7 H9 Z6))
theorem AH0 (l:List Str)(hl:l.length≤4194304):D6 48 [strs l] (strs l):=
  J5 (BN9 l hl) fun x _=>K2 (i6.2 rfl) G3
theorem Br2 (a b:Int):D6 193 [AV.int a,AV.int b] (AV.int (if a<b then b else a)):=by
 refine B0 func193 rfl ntmps193 rfl ?_;refine zK ?_ ?_
 ·intro h7 k7;refine R6 ?_;exact D1 rfl (A5 rfl (by exact F2 AV.int (by split<;>omega)))
 intro h7 k7;refine R7 ?_;exact D1 rfl (A5 rfl (by exact F2 AV.int (by split<;>omega)))
theorem DE5 (s:E1)(r:N5)(g:SO s)(hs:s.size≤300000)(hrs:r.size≤300000):D6 223 [AV.agg s.cs,AV.agg r.cs] (AV.tup [AV.agg (Y2 s r).1.cs,AV.bool (Y2 s r).2]):=by
 obtain⟨hs1,hs2,hs3,hs4,hs5⟩:=AB6 hs;have hgc:=g.cells;have hgh:=g.hsort;have hgt:=g.tsort;have hr2:r.size=D2 (fun x:Str=>x.length) r.Reads+D2 B1.size r.Writes:=rfl;have hr3:=M7 (f:=fun x:Str=>x.length) (l:=r.Reads);have hr4:=M7 (f:=B1.size) (l:=r.Writes);have hho:=Bq8 s.Held r.Txn;have hto:=Dc4 s.Told r.Txn;obtain⟨h,hh⟩:∃h,(AN4 s.Held r.Txn).1=h:=⟨_,rfl⟩;have hf1:AO2 s.Held r.Txn=true→AE1 s.Held r.Txn=some h:=fun e=>by
  rw[←hho]at e;unfold AN4 at hh e
  cases hf:AE1 s.Held r.Txn with
  |none=>rw[hf]at e;cases e
  |some x=>rw[hf]at hh;exact F2 some hh
 have hf0:AO2 s.Held r.Txn=false→AE1 s.Held r.Txn=none:=fun e=>BN5.2 e;have hhs:AO2 s.Held r.Txn=true→h.size≤300000∧1≤h.Time:=fun e=>by
  obtain⟨h1,h2⟩:=Ap3 (hf1 e);obtain⟨i,hi⟩:=i5 h1;exact⟨(AM0 hs2 hi).1,g.times h h1⟩
 refine B0 func223 rfl ntmps223 rfl ?_;refine R3 ?_;intro b2;refine R1 ?_;intro b3;refine R1 ?_;intro b4;refine R5 ?_;refine A1 rfl (A4 rfl call280 rfl (Cg6 s qz7) G6) ?_;refine R1 ?_;intro b6;refine R7 ?_;refine A1 rfl (A4 rfl call94 rfl (Ae0 s r.Txn qz7) F3) ?_;refine R4 ?_;intro b7;refine R8 ?_;refine A1 rfl (A4 rfl call93 rfl (AJ7 s r.Txn qz7) F3) ?_;refine R4 ?_;intro b9;refine R6 ?_;rw[hh];rw[hho,hto];refine R6 ?_;refine A3 ?_ ?_
 ·intro h29;have hk:r.Kind=4:=by simpa using h29
  have he:Y2 s r=(⟨r.Time,s.Cells,s.Held,s.Told⟩,decide (s.Floor<r.Time)):=by (unfold Y2;rw[D9 hk])
  rw[he];refine R8 ?_;refine AWP.le (B4 [2,3,3] rfl) ?_;refine Z9 _ 7 (.pure 0 (.pure 1 (.pure 2 (.pure 3 (.pure 4 (.pure 5 (.e1 6 .nil))))))) E3 E3 rfl (U8 3) ?_;refine R7 ?_;refine AZ3 rfl rfl rfl (AB5 5 rfl rfl (A0 rfl) (A0 rfl) (e6 _) rfl K8 rfl) (fun a _=>qz3) ?_;intro _ _;refine R4 ?_;exact Y1 rfl E5 (G0 (F5 (ys:=_) 5 rfl rfl S5 K8 rfl) V6)
 intro h29;have hk4:r.Kind≠4:=by simpa using h29
 refine R5 ?_;refine A3 ?_ ?_
 ·intro h42;have he:Y2 s r=(s,false):=by (unfold Y2;rw[D0 hk4,D9 h42])
  rw[he];refine R7 ?_;exact Y1 rfl E5 (G0 (F5 (ys:=_) 3 rfl rfl S5 K8 rfl) V6)
 intro h42;have hT:AU2 s.Told r.Txn=false:=h42;have hnT:¬AU2 s.Told r.Txn=true:=by (rw[hT];decide)
 refine R7 ?_;refine A3 ?_ ?_
 ·intro h45;have hk1:r.Kind=1:=by simpa using h45
  have he:Y2 s r=(⟨r.Time,s.Cells,Ac2 (hOf r) s.Held,s.Told⟩,(!AO2 s.Held r.Txn&&decide (s.Floor<r.Time))&&fits s r.Reads r.Writes):=by (unfold Y2;rw[D0 hk4,D0 hnT,D9 hk1])
  rw[he];refine R1 ?_;refine P1 _ [(0,false),(1,false),(2,false),(3,false),(4,false),(5,false),(6,false),(7,false),(8,false),(9,false),(10,false),(12,false),(13,false),(11,true),(14,true),(15,false)] E3 E3 rfl AZ1 ?_;refine R10 ?_;refine N0 rfl rfl rfl (fun ext=>A4 rfl call48 rfl (AH0 _ qz7) (A2 (A0 rfl) A9)) ?_;refine R2 ?_;refine U2 rfl rfl rfl (AC3 rfl G5 M8) (fun a _=>qz3) ?_;intro v60 _;refine U2 rfl rfl rfl (Af7 [6] (fun _=>rfl) (fun _=>K2 (C3 (i:=0) rfl) G3) (fun _=>Af6) (N3 (by':=40) 6 rfl G5 type248 rfl rfl rfl rfl rfl rfl (A0 rfl) (A0 rfl) rfl Be4)) (fun a _=>qz3) ?_;intro v63_1 _;refine R2 ?_;refine A1 rfl (A4 rfl call281 rfl (Ct8 s.Held (hOf r) hgh qz7) F3) ?_;refine R11 ?_;refine AWP.le (B4 [2,3,3] rfl) ?_;refine Z9 _ 19 (.pure 0 (.pure 1 (.pure 2 (.pure 3 (.pure 4 (.pure 5 (.pure 6 (.pure 7 (.pure 8 (.pure 9 (.pure 10 (.pure 11 (.pure 12 (.pure 13 (.pure 14 (.pure 15 (.pure 16 (.pure 17 (.e1 18 .nil))))))))))))))))))) E3 E3 rfl (U8 3) ?_;refine R4 ?_;refine Am5 rfl rfl (Q3 rfl rfl rfl) (fun hc ext=>Ba5 2 rfl underlying167 rfl E9 (A0 rfl) rfl) ?_;refine Am5 rfl rfl (Q3 rfl rfl rfl) (fun hc ext=>BR3 1 rfl (A7 rfl hc) rfl O3 rfl) ?_;refine Am5 rfl rfl (Q3 rfl rfl rfl) (fun hc ext=>Ba5 0 rfl AA3 rfl E9 (A0 rfl) rfl) ?_;refine Am5 rfl rfl (Q3 rfl rfl rfl) (fun hc ext=>BR3 2 rfl (A7 rfl hc) rfl O3 rfl) ?_;refine Am5 rfl rfl (Q3 rfl rfl rfl) (fun hc ext=>w_gtr rfl (A7 rfl hc) (A7 rfl hc)) ?_;refine R2 ?_;refine Am5 rfl rfl (Q3 rfl rfl rfl) (fun hc ext=>DI8 2 rfl (A0 rfl) rfl S5 K8 rfl) ?_;refine Am5 rfl rfl (Q3 rfl rfl rfl) (fun hc ext=>Ba5 4 rfl underlying167 rfl AA0 (A0 rfl) rfl) ?_;refine Am5 rfl rfl (Q3 rfl rfl rfl) (fun hc ext=>BR3 1 rfl (A7 rfl hc) rfl isAgg25 rfl) ?_;refine Am5 rfl rfl (Q3 rfl rfl rfl) (fun hc ext=>Ba5 5 rfl underlying167 rfl sizeOf123 (A0 rfl) rfl) ?_;refine Am5 rfl rfl (Q3 rfl rfl rfl) (fun hc ext=>BR3 1 rfl (A7 rfl hc) rfl isAgg123 rfl) ?_;refine Am5 rfl rfl (Q3 rfl rfl rfl) (fun hc ext=>A4 rfl call282 rfl (CK4 s r.Reads r.Writes qz7 qz7) (A2 (A7 rfl hc) (A2 (A7 rfl hc) (A2 (A7 rfl hc) A9)))) ?_;refine R2 ?_;refine AZ3 rfl rfl rfl (AB5 5 rfl rfl (A0 rfl) (A0 rfl) (e6 _) rfl K8 rfl) (fun a _=>qz3) ?_;intro _ _;refine R4 ?_;exact Y1 rfl E5 (G0 (F5 (ys:=_) 5 rfl rfl S5 K8 rfl) V6)
 intro h45;have hk1:r.Kind≠1:=by simpa using h45
 have hap:Y2 s r=(if r.Yes=true then (match AE1 s.Held r.Txn with|none=>(s,false)|some h=>if r.Time<h.Time then (s,false)else if (AL8 s.Cells h.Writes r.Time).2=true then (AQ2 s r (if s.Floor<r.Time then r.Time else s.Floor) (AL8 s.Cells h.Writes r.Time).1,true)else (s,false))else (AQ2 s r s.Floor s.Cells,true)):=by (unfold Y2;rw[D0 hk4,D0 hnT,D0 hk1];rfl)
 refine R6 ?_;refine A3 ?_ ?_
 ·intro h88;refine R13 ?_;refine A3 ?_ ?_
  ·intro h99;have he:Y2 s r=(s,false):=by (rw[hap,D9 h88];cases e:AO2 s.Held r.Txn with|false=>(rw[hf0 e])|true=>(rw[hf1 e];dsimp only;rw[D9 (by rw[e]at h99;simpa using h99)]))
   rw[he];refine R7 ?_;exact Y1 rfl E5 (G0 (F5 (ys:=_) 3 rfl rfl S5 K8 rfl) V6)
  intro h99;simp only[v9,AD1,AB8]at h99;obtain⟨hhas,hnlt⟩:=h99;obtain⟨hz1,hz2⟩:=hhs hhas;have hz3:h.size=D2 (fun x=>x.length) h.Reads+D2 B1.size h.Writes:=rfl;refine R9 ?_;refine A1 rfl (A4 rfl call283 rfl (DE4 s.Cells h.Writes r.Time hgc qz7 qz7 qz7) AD5) ?_;refine R12 ?_;refine A3 ?_ ?_
  ·intro h112;have he:Y2 s r=(s,false):=by (rw[hap,D9 h88,hf1 hhas];dsimp only;rw[D0 qz7,D0 (by simpa using h112)])
   rw[he];refine R7 ?_;exact Y1 rfl E5 (G0 (F5 (ys:=_) 3 rfl rfl S5 K8 rfl) V6)
  intro h112;have he:Y2 s r=(AQ2 s r (if s.Floor<r.Time then r.Time else s.Floor) (AL8 s.Cells h.Writes r.Time).1,true):=by (rw[hap,D9 h88,hf1 hhas];dsimp only;rw[D0 qz7,D9 (by simpa using h112)])
  rw[he];unfold AQ2;refine R12 ?_;refine A1 rfl (A4 rfl call193 rfl (Br2 _ _) F3) ?_;refine R9 ?_;refine A1 rfl (A4 rfl call284 rfl (Cc1 s.Held r.Txn qz7) F3) ?_;refine R14 ?_;refine A1 rfl (A4 rfl call285 rfl (Br1 s.Told ⟨r.Txn,r.Yes,r.Time⟩ hgt qz7) F3) ?_;refine R10 ?_;exact Y1 rfl E5 (G0 (F5 (ys:=_) 3 rfl rfl S5 K8 rfl) V6)
 intro h88;have he:Y2 s r=(AQ2 s r s.Floor s.Cells,true):=by (rw[hap,D0 (by rw[h88];decide)])
 rw[he];unfold AQ2;refine R7 ?_;refine A1 rfl (A4 rfl call284 rfl (Cc1 s.Held r.Txn qz7) F3) ?_;refine R14 ?_;refine A1 rfl (A4 rfl call285 rfl (Br1 s.Told ⟨r.Txn,r.Yes,r.Time⟩ hgt qz7) F3) ?_;refine R10 ?_;exact Y1 rfl E5 (G0 (F5 (ys:=_) 3 rfl rfl S5 K8 rfl) V6)
theorem DE6 (s:E1)(k:Str)(t:Int)(hs:s.size≤1048576):M0 371 [AV.agg s.cs,AV.str k,AV.int t] [] (fun _:Value=>True) (fun x=>[.arr x 3 1 ((AX3 s.Held k t).map fun n=>[AV.int n])]) (fun x=>AV.is x):=by
 obtain⟨hs1,hs2,hs3,hs4,hs5⟩:=AB6 hs;refine C8 func371 rfl ntmps371 rfl ?_;refine R3 ?_;intro b3;refine zq88 ?_;refine R3 ?_;refine n1 3 1 rfl rfl rfl rfl L2 ?_;intro v7;refine R10 ?_;refine W1 [(1,_),(2,_),(6,_),(11,_),(12,_)] _ (fun (i:Nat) (v:Value) (ns:List Int)=>i≤s.Held.length∧ns=AX3 (s.Held.take i) k t) (fun i v ns=>[.arr v 3 1 (ns.map fun n=>[AV.int n])]) (fun i v ns=>[(7,AV.is v),(13,AV.int i)]) (fun i v ns=>s.Held.length-i) (0) (v7) ([]) ?_ (I1 B7 A6) ?_
 ·exact zq4
 intro i v ns hinv;refine zK ?_ ?_
 ·intro h14 k14;have hlt:i<s.Held.length:=by omega
  obtain⟨h,hx⟩:=B2 hlt;have hnl:ns.length≤1048576:=by (rw[hinv.2];have h9:=DS0 (s.Held.take i) k t;rw[H0]at h9;omega)
  refine zq27 ?_;intro b9;refine R12 ?_;refine L5 rfl (fun hc=>zG rfl call358 (BO2 _ _) zS) ?_;refine zC ?_ ?_
  ·intro h26;refine R5 ?_;refine I0 (by':=8) 1 rfl rfl rfl rfl D3 type3 rfl rfl rfl rfl rfl rfl zA zA rfl qz1 ?_;intro v31_1;refine R6 ?_;refine Q8 i v ns (i+1) (v31_1) (ns++[h.Txn]) ?_ ?_ (Le.trans (B4 [0,0] rfl) (D5 1 Ck2 A6))
   ·first|exact⟨by omega,by rw[CK0 hx Ck1,hinv.2]⟩|exact⟨by omega,by rw[Cb8 hx Ck1,hinv.2]⟩
   omega
  intro h26;refine R5 ?_;refine Q8 i v ns (i+1) (v) (ns) ?_ ?_ (Le.trans (B4 [0,0] rfl) (D5 1 Ck2 A6))
  ·first|exact⟨by omega,by rw[CK0 hx Ck1,hinv.2]⟩|exact⟨by omega,by rw[Cb8 hx Ck1,hinv.2]⟩
  omega
 intro h14 k14;have hge:s.Held.length≤i:=by omega
 have hns:=hinv.2;rw[S7 hge]at hns;rw[←hns];exact zq118
theorem Br3 (s:E1)(k:Str)(t:Int)(hs:s.size≤1048576):D6 371 [AV.agg s.cs,AV.str k,AV.int t] (ints (AX3 s.Held k t)):=
  J5 (DE6 s k t hs) fun x _=>K2 (i6.2 rfl) G3
theorem of_own (l:List N5)(hl:l.length≤60)(hr:∀r∈l,r.size≤1100):M0 160 [AV.list 7 (l.map N5.cs)] [] (fun _:Value=>True) (fun x=>[.arr x 4 1 ((Ae8 V0 l).map fun b=>[AV.bool b])]) (fun x=>AV.tup [AV.agg (Z2 V0 l).cs,AV.is x]):=by
 have hgs:∀i,SO (Z2 V0 (l.take i)):=fun i=>DL8 so_zero;have hsz:∀i,(Z2 V0 (l.take i)).size≤300000:=fun i=>by
  have h1:=Ct2 (Z2 V0 (l.take i));have h2:=CE1 (m:=1100) (s:=V0) (l:=l.take i) fun r hr2=>hr r (AZ9 hr2);have h3:phi V0=0:=rfl;have h4:(l.take i).length≤60:=by rw[H0];omega
  omega
 refine C8 func160 rfl ntmps160 rfl ?_;refine R3 ?_;intro b2;refine zq88 ?_;refine R4 ?_;intro b4;refine R3 ?_;refine n1 4 1 rfl rfl rfl rfl L2 ?_;intro v5;refine R3 ?_;refine AWP.le (Ap1 1 1 2 rfl rfl M6) ?_;refine AWP.le (Ap1 1 2 5 rfl rfl M6) ?_;refine AWP.le (Ap1 1 3 3 rfl rfl M6) ?_;refine R6 ?_;refine zL [1,0] ?_;refine W1 [(2,_),(3,_),(4,_),(10,_),(11,_)] _ (fun (i:Nat) (v:Value) (bs:List Bool)=>i≤l.length∧bs=Ae8 V0 (l.take i)∧bs.length≤i) (fun i v bs=>[.box b4 64 (Z2 V0 (l.take i)).cs,.arr v 4 1 (bs.map fun b=>[AV.bool b])]) (fun i v bs=>[(5,AV.is v),(12,AV.int i)]) (fun i v bs=>l.length-i) (0) (v5) ([]) ?_ (I1 B7 A6) ?_
 ·exact⟨E4 _,rfl,K9 _⟩
 intro i v bs hinv;refine zK ?_ ?_
 ·intro h13 k13;have hlt:i<l.length:=by omega
  obtain⟨r,hx⟩:=B2 hlt;have hgr:=hr r (C3 hx);have hgi:=hgs i;have hsi:=hsz i;refine R5 ?_;refine A1 rfl (C2 rfl AN6 y9 zA zA hx qz1) ?_;refine R2 ?_;intro b7;refine R6 ?_;refine zF rfl call223 (DE5 (Z2 V0 (l.take i)) r hgi qz7 qz7) F3 ?_;refine R4 ?_;intro b8;refine zC ?_ ?_
  ·intro h22;have hstep:(Y2 (Z2 V0 (l.take i)) r).1=AK9 (Z2 V0 (l.take i)) r:=by (unfold AK9;rw[D9 h22])
   refine R8 ?_;refine zq87 ?_;intro v27_1;refine R6 ?_;refine Q8 i v bs (i+1) (v27_1) (bs++[(Y2 (Z2 V0 (l.take i)) r).2]) ?_ ?_ (Le.trans (B4 [0,0,0,0] rfl) (D5 2 Ck9 A6))
   ·exact⟨by omega,by rw[Az5 hx,hinv.2.1],by rw[I2];simp;omega⟩
   omega
  intro h22;have hstep:Z2 V0 (l.take i)=AK9 (Z2 V0 (l.take i)) r:=by (conv=>rhs;unfold AK9;rw[D0 (by rw[h22];decide)])
  refine R5 ?_;refine zq87 ?_;intro v27_2;refine R6 ?_;refine Q8 i v bs (i+1) (v27_2) (bs++[(Y2 (Z2 V0 (l.take i)) r).2]) ?_ ?_ (Le.trans (B4 [0,0,0,0] rfl) (D5 2 Ck9 A6))
  ·exact⟨by omega,by rw[Az5 hx,hinv.2.1],by rw[I2];simp;omega⟩
  omega
 intro h13 k13;have hge:i=l.length:=by omega
 have hbs:=hinv.2.1;rw[hge,AO5]at hbs;rw[hge,AO5,←hbs];exact zq210
theorem ofF_spec (l:List N5)(hl:l.length≤60)(hr:∀r∈l,r.size≤1100):D6 160 [AV.list 7 (l.map N5.cs)] (AV.tup [AV.agg (Z2 V0 l).cs,AV.list 1 ((Ae8 V0 l).map fun b=>[AV.bool b])]):=
  J5 (of_own l hl hr) fun x _=>AQ7 (D7 H9 (D7 (K2 (C3 (i:=0) rfl) G3) Z6))
attribute [local irreducible] T3
theorem AH8 (a b:Int):D6 193 [AV.int a,AV.int b] (AV.int (if b<a then a else b)):=by
 refine B0 Tryz.func193 rfl Tryz.ntmps193 rfl ?_;refine zC ?_ ?_
 ·intro h7;rw[D9 (AB7 h7)];exact zq105
 intro h7;rw[D0 (BO5 h7)];exact zq216
attribute [local irreducible] Y8
theorem DE7 (a b:N5)(hs:a.size≤1048576):D6 159 [AV.agg a.cs,AV.agg b.cs] (AV.bool (decide (a=b))):=by
 have hl1:=M7 (f:=fun s:Str=>s.length) (l:=a.Reads);have hl2:=M7 (f:=B1.size) (l:=a.Writes);have hs9:D2 (fun s:Str=>s.length) a.Reads+D2 B1.size a.Writes≤1048576:=hs;refine B0 func159 rfl ntmps159 rfl ?_;refine R3 ?_;intro b2;refine R1 ?_;intro b3;refine R36 ?_;refine S0 rfl (fun hc=>Ba3 rfl U4 (A7 rfl hc) (A7 rfl hc)) ?_;refine zC ?_ ?_
 ·intro h57;have hne:a≠b:=fun e=>(by subst e;simp at h57);rw[AC1 hne];exact zq40
 intro h57;have hh:=h57;simp only[v9,bne_eq_false_iff_eq,A8]at hh;refine R7 ?_;refine E8 [(2,_),(3,_)] _ (fun (i:Nat)=>i≤a.Reads.length∧a.Reads.take i=b.Reads.take i) (fun i=>[]) (fun i=>[(5,AV.int i)]) (fun i=>a.Reads.length-i) (0) ?_ (G2 A6) ?_
 ·exact zq4
 intro i hinv;refine zK ?_ ?_
 ·intro h62 k62;have hlt:i<a.Reads.length:=(by simpa using h62);obtain⟨x,hx⟩:=B2 hlt;obtain⟨y,hy⟩:=B2 (show i<b.Reads.length by omega);refine R8 ?_;refine B3 rfl rfl (C2 rfl E2 I6 zA zA hx qz1) ?_;refine R4 ?_;refine zq172 ?_;refine zC ?_ ?_
  ·intro h75;have hne:a≠b:=fun e=>(by subst e;rw[hx]at hy;injection hy with hy;simp[hy]at h75);rw[AC1 hne];exact zq40
  intro h75;refine R6 ?_;refine F1 i (i+1) ?_ ?_ (G2 A6)
  ·exact⟨by omega,by rw[X3,X3,hinv.2,hx,hy];congr 2;simpa using h75⟩
  omega
 intro h62 k62;have hge:a.Reads.length≤i:=(by simpa using h62);have hreads:a.Reads=b.Reads:=Cl0;refine R7 ?_;refine E8 [(2,_),(3,_)] _ (fun (j:Nat)=>j≤a.Writes.length∧a.Writes.take j=b.Writes.take j) (fun j=>[]) (fun j=>[(6,AV.int j)]) (fun j=>a.Writes.length-j) (0) ?_ (G2 A6) ?_
 ·exact zq4
 intro j hinv;refine zK ?_ ?_
 ·intro h80 k80;have hlt1:j<a.Writes.length:=(by simpa using h80);obtain⟨u,hu⟩:=B2 hlt1;obtain⟨v,hv⟩:=B2 (show j<b.Writes.length by omega);refine R8 ?_;refine B3 rfl rfl (C2 rfl G5 M8 zA zA hu qz1) ?_;refine R4 ?_;refine B3 rfl rfl (C2 rfl G5 M8 zA zA hv qz1) ?_;refine R1 ?_;refine B3 rfl rfl (BI4 rfl underlying248 E3 E3 zA zA (j5 E3 u3 rfl rfl (Aj1 P6) (j5 E3 u3 rfl rfl (Aj1 P6) (j5 E3 AF5 rfl rfl (Am1 U4) Aj0)))) ?_;refine zC ?_ ?_
  ·intro h93;have hne:a≠b:=fun e=>(by subst e;rw[hu]at hv;injection hv with hv;rw[BW1]at h93;simp[hv]at h93);rw[AC1 hne];exact zq40
  intro h93;refine R6 ?_;refine F1 j (j+1) ?_ ?_ (G2 A6)
  ·exact⟨by omega,by rw[X3,X3,hinv.2,hu,hv];congr 2;rw[BW1]at h93;simpa using h93⟩
  omega
 intro h80 k80;have hge1:a.Writes.length≤j:=(by simpa using h80);have hwrites:a.Writes=b.Writes:=Cl0;have hyes:a=b:=(by cases a;cases b;simp_all);rw[W6 hyes];exact zq105
theorem Bc5 (a b:List F4)(n:Nat)(hs:∀e∈a,e.size≤1048576)(hn:n≤1048576):D6 88 [AV.list 8 (a.map F4.cs),AV.list 8 (b.map F4.cs),AV.int (n:Int)] (AV.bool (AC4 a b n)):=by
 refine B0 func88 rfl ntmps88 rfl ?_;refine zC ?_ ?_
 ·intro h17;have he:AC4 a b n=false:=(by unfold AC4;refine AC1 fun hc=> ?_;simp only[A8,AC0,H6]at h17;omega);rw[he];exact zq40
 intro h17;have hh:=h17;simp only[A8,v9,AB8]at hh;refine R7 ?_;refine E8 [(0,_),(1,_),(2,_)] _ (fun (i:Nat)=>i≤n∧a.take i=b.take i) (fun i=>[]) (fun i=>[(7,AV.int i)]) (fun i=>n-i) (0) ?_ (G2 A6) ?_
 ·exact zq4
 intro i hinv;refine zK ?_ ?_
 ·intro h20 k20;have hlt:i<n:=by omega
  obtain⟨x,hx⟩:=B2 (show i<a.length by omega);obtain⟨y,hy⟩:=B2 (show i<b.length by omega);have hxs:x.Rec.size≤1048576:=hs x (C3 hx);refine R7 ?_;refine B3 rfl rfl (C2 rfl L3 Q1 zA zA hx qz1) ?_;refine R4 ?_;refine B3 rfl rfl (C2 rfl L3 Q1 zA zA hy qz1) ?_;refine R6 ?_;refine zq144 ?_;refine R4 ?_;refine M1 rfl (Y6 rfl rfl rfl) (fun hc=>C2 rfl L3 Q1 (A7 rfl hc) (A7 rfl hc) hy qz6) ?_;refine R2 ?_;refine M1 rfl (Y6 rfl rfl rfl) (fun hc=>zG rfl call159 (DE7 _ _ X9) (A2 (A7 rfl hc) (A2 (A7 rfl hc) A9))) ?_;refine zC ?_ ?_
  ·intro h47;have he:AC4 a b n=false:=Dc5 hlt hx hy (by rw[entry_eq]at h47;simpa using h47);rw[he];exact zq40
  intro h47;refine R6 ?_;refine F1 i (i+1) ?_ ?_ (G2 A6)
  ·exact⟨by omega,DD8 hinv.2 hx hy (by rw[entry_eq]at h47;simpa using h47)⟩
  omega
 intro h20 k20;have hge:i=n:=by omega
 subst hge;have he:AC4 a b i=true:=(by unfold AC4;exact W6 ⟨by omega,by omega,hinv.2⟩);rw[he];exact zq105
theorem Cg7 (a b:List F4)(n:Nat)(hs:D2 F4.size a≤1048576)(hn:n≤1048576):D6 88 [AV.list 8 (a.map F4.cs),AV.list 8 (b.map F4.cs),AV.int (n:Int)] (AV.bool (AC4 a b n)):=
  Bc5 a b n (fun e he=>by obtain⟨i,hi⟩:=i5 he;exact L7 (W4 (f:=F4.size) hi) hs) hn
theorem Br4 (l:List F4)(hs:D2 F4.size l≤1048576):M0 195 [AV.list 8 (l.map F4.cs)] [] (fun _:Value=>True) (fun v=>[.arr v 179 8 (l.map F4.cs)]) (fun v=>AV.is v):=by
 have hll:l.length≤1048576:=L7 M7 hs;refine C8 func195 rfl ntmps195 rfl ?_;refine zq149 ?_;refine S3 rfl rfl rfl rfl L3 Q1 ?_;intro v6;refine R8 ?_;refine zL [0] ?_;refine K5 [(0,_),(2,_)] _ (fun (i:Nat) (v:Value)=>i≤l.length) (fun i v=>[.arr v 179 8 ((l.take i).map F4.cs)]) (fun i v=>[(3,AV.is v),(4,AV.int i)]) (fun i v=>l.length-i) (0) (v6) ?_ (I1 B7 A6) ?_
 ·exact E4 _
 intro i v hinv;refine zK ?_ ?_
 ·intro h10 k10;have hlt:i<l.length:=BF6;obtain⟨x,hx⟩:=B2 hlt;have hsx:F4.size x≤1048576:=L7 (W4 hx) hs;have hsr:D2 (fun s:Str=>s.length) x.Rec.Reads+D2 B1.size x.Rec.Writes≤1048576:=hsx;have hl1:=M7 (f:=fun s:Str=>s.length) (l:=x.Rec.Reads);have hl2:=M7 (f:=B1.size) (l:=x.Rec.Writes);refine R7 ?_;refine zq96 ?_;refine R2 ?_;intro b5;refine R4 ?_;refine S3 rfl rfl rfl rfl E2 I6 ?_;intro v17;refine R3 ?_;refine I0 (by':=16) 0 rfl rfl rfl rfl E2 type9 rfl rfl rfl rfl rfl rfl zA zA rfl (by simp only[A8,T5];omega) ?_;intro v21_1;refine R2 ?_;refine O7 0 rfl fun one_v21_1=> ?_;refine N2 1 rfl rfl rfl zA zA (F6 one_v21_1) rfl AA0 rfl ?_;refine zq204 ?_;intro v24;refine R3 ?_;refine I0 (by':=40) 0 rfl rfl rfl rfl G5 type248 rfl rfl rfl rfl rfl rfl zA zA rfl (by simp only[A8,T5];omega) ?_;intro v28_2;refine R2 ?_;refine O7 0 rfl fun one_v28_2=> ?_;refine N2 2 rfl rfl rfl zA zA (F6 one_v28_2) rfl sizeOf123 rfl ?_;refine R1 ?_;refine AWP.le (Am7 [1,0] 0 (.box b5 179 x.cs) rfl rfl ⟨rfl,rfl,(D7 H9 (D7 H9 (D7 H9 (D7 H9 (D7 H9 (D7 (K2 (C3 (i:=0) rfl) G3) (D7 (K2 (C3 (i:=1) rfl) G3) (D7 H9 Z6))))))))⟩ M6) ?_;refine R4 ?_;refine I0 (by':=96) 1 rfl rfl rfl rfl L3 type179 rfl rfl rfl rfl rfl rfl zA zA rfl Be7 ?_;intro v34_3;refine R7 ?_;refine H5 i v (i+1) (v34_3) ?_ ?_ (Le.trans (B4 [0,0] rfl) (D5 1 (by (rw[BI7 hx,Y3];rfl)) A6))
  ·exact qz7
  omega
 intro h10 k10;have hge:l.length≤i:=BF6;rw[S7 hge];exact zq118
theorem BL3 (l:List F4)(hs:D2 F4.size l≤1048576):D6 195 [AV.list 8 (l.map F4.cs)] (AV.list 8 (l.map F4.cs)):=
  J5 (Br4 l hs) fun x _=>K2 (C3 (i:=0) rfl) G3
def C1.fcs (g:C1)(v:Value):List AV:=[AV.is v,AV.int g.Term,AV.int g.Lead]
def C1.fow (g:C1)(v:Value):List Own:=[.arr v 70 3 (g.Reps.map D8.cs)]
theorem C1.fl (g:C1)(v:Value):AQ9 (C1.fow g v) (AV.agg (C1.fcs g v)) (AV.agg g.cs):=AO7 (D7 (K2 (C3 (i:=0) rfl) G3) (D7 H9 (D7 H9 Z6)))
theorem Aw6 (g:C1)(hs:g.size≤1048576):M0 125 [AV.agg g.cs] [] (fun _:Value=>True) (fun v=>C1.fow g v) (fun v=>AV.agg (C1.fcs g v)):=by
 have hrs:D2 D8.size g.Reps≤1048576:=hs;have hll:g.Reps.length≤1048576:=L7 M7 hrs;refine C8 func125 rfl ntmps125 rfl ?_;refine R3 ?_;intro b1;refine R1 ?_;intro b2;refine R3 ?_;refine S3 rfl rfl rfl rfl D4 F9 ?_;intro v5;refine R4 ?_;refine O7 0 rfl fun one_v5=> ?_;refine zq133 ?_;intro b3;refine R8 ?_;refine zL [0,0] ?_;refine K5 [(1,_),(2,_),(3,_)] _ (fun (i:Nat) (v:Value)=>i≤g.Reps.length) (fun i v=>[.box b3 38 (C1.fcs g v),.arr v 70 3 ((g.Reps.take i).map D8.cs)]) (fun i v=>[(4,AV.int i)]) (fun i v=>g.Reps.length-i) (0) (v5) ?_ (I1 B7 A6) ?_
 ·exact E4 _
 intro i v hinv;refine zK ?_ ?_
 ·intro h15 k15;have hlt:i<g.Reps.length:=Ax2;obtain⟨x,hx⟩:=B2 hlt;have hsx:D2 F4.size x.Log≤1048576:=L7 (W4 (f:=D8.size) hx) hrs;refine R3 ?_;refine J3 23 E3 E3 rfl ?_;refine R5 ?_;refine zq122 ?_;refine R5 ?_;refine zq122 ?_;refine R2 ?_;refine B3 rfl rfl (zG rfl call195 (BL3 x.Log hsx) G6) ?_;refine R3 ?_;refine zq122 ?_;refine R5 ?_;refine I0 (by':=40) 1 rfl rfl rfl rfl D4 type70 rfl rfl rfl rfl rfl rfl zA zA rfl Be7 ?_;intro v41_1;refine R1 ?_;refine O7 1 rfl fun one_v41_1=> ?_;refine N2 0 rfl rfl rfl zA zA (F6 one_v41_1) rfl AR1 rfl ?_;refine R6 ?_;refine H5 i v (i+1) (v41_1) ?_ ?_ (Le.trans (B4 [0,0] rfl) (I1 (by (rw[BI7 hx,Y3];rfl)) A6))
  ·exact qz7
  omega
 intro h15 k15;have hge:g.Reps.length≤i:=Ax2;rw[S7 hge];refine R7 ?_;exact I9 [1] v (trivial) rfl B7 (O2 rfl (F5 (ys:=_) 2 rfl rfl K6 C6 rfl))
theorem CK5 (r:D8)(t:Int)(hll:r.Log.length≤1048576)(hs:∀e∈r.Log,e.size≤1048576):D6 155 [AV.agg r.cs,AV.int t] (AV.bool (AG2 r t)):=by
 refine B0 func155 rfl ntmps155 rfl ?_;refine R3 ?_;intro b2;refine R19 ?_;refine S0 rfl (fun hc=>zG rfl call87 (T7 _ _ _) zS) ?_;refine zC ?_ ?_
 ·intro h19;have he:AG2 r t=false:=(by unfold AG2;simp only[A8,AC0,H6,n5]at h19;rcases h19 with k|k;(rw[AC1 qz7];rfl);(rw[k];simp));rw[he];exact zq40
 intro h19;have hh:=h19;simp only[A8,v9,AB8,AD1]at hh;have hg:AG2 r t=Aa4 t 1 r.Log:=(by unfold AG2;rw[W6 qz7,hh.2];rfl);refine R7 ?_;refine K5 [(1,_),(2,_)] _ (fun (i:Nat) (p:Int)=>i≤r.Log.length∧Aa4 t 1 r.Log=Aa4 t p (r.Log.drop i)) (fun i p=>[]) (fun i p=>[(5,AV.int p),(6,AV.int i)]) (fun i p=>r.Log.length-i) (0) (1) ?_ (G2 A6) ?_
 ·exact zq4
 intro i p hinv;refine zK ?_ ?_
 ·intro h24 k24;have hlt:i<r.Log.length:=(by simpa using h24);obtain⟨x,hx⟩:=B2 hlt;have hsx:x.Rec.size≤1048576:=hs x (C3 hx);refine R9 ?_;refine zq96 ?_;refine R4 ?_;refine zF rfl call87 (T7 _ _ _) AD5 ?_;refine R5 ?_;refine S0 rfl (fun hc=>C2 rfl L3 Q1 (A7 rfl hc) (A7 rfl hc) hx qz6) ?_;refine R2 ?_;refine S0 rfl (fun hc=>zG rfl call222 (BS1 _ X9) (A2 (A7 rfl hc) A9)) ?_;refine zC ?_ ?_
  ·intro h46;have he:AG2 r t=false:=(by rw[hg,hinv.2,BO1 hx];simp only[AC0,n5]at h46;rcases h46 with k|k;(rw[k];rfl);(rw[Ay4,k];simp));rw[he];exact zq40
  intro h46;refine R5 ?_;refine zq96 ?_;refine R9 ?_;refine H5 i p (i+1) (x.Term) ?_ ?_ (G2 A6)
  ·exact⟨by omega,by rw[hinv.2,BO1 hx];simp only[v9,AD1]at h46;rw[h46.1,Ay4,h46.2];rfl⟩
  omega
 intro h24 k24;have hge:r.Log.length≤i:=(by simpa using h24);rw[hg,hinv.2,r9 hge];exact zq105
theorem CU2 (r:D8)(t:Int)(hs:r.size≤1048576):D6 155 [AV.agg r.cs,AV.int t] (AV.bool (AG2 r t)):=
  CK5 r t (L7 (M7 (f:=F4.size)) hs) fun e he=>by obtain⟨i,hi⟩:=i5 he;exact L7 (W4 (f:=F4.size) hi) hs
theorem Cg8 {g:C1}(h:¬(((AS8 g.Reps.length&&within g.Term 0 200)&&within g.Lead (-1) ((g.Reps.length:Int)-1))=true)):P0 g=false:=by
  rw[←Bool.not_eq_true,o9];intro k;apply h
  have h1:=k.term;have h3:within g.Lead (-1) ((g.Reps.length:Int)-1)=true:=by
    unfold within;rw[F0,H6,H6]
    rcases k.lead with e|⟨a,b,_⟩
    ·have:=k.many;omega
    ·omega
  have h4:AS8 g.Reps.length=true:=by unfold AS8;rw[AC0,m6,m6];have:=k.many;omega
  have h5:within g.Term 0 200=true:=by unfold within;rw[F0,H6,H6];omega
  rw[h3,h4,h5];rfl
theorem AS0 (g:C1)(hs:g.size≤1048576):D6 81 [AV.agg g.cs] (AV.bool (P0 g)):=by
 have hrs:D2 D8.size g.Reps≤1048576:=hs;have hll:g.Reps.length≤1048576:=L7 M7 hrs;refine B0 func81 rfl ntmps81 rfl ?_;refine R3 ?_;intro b1;refine R18 ?_;refine S0 rfl (fun hc=>zG rfl call87 (T7 _ _ _) (A2 (A7 rfl hc) AT1)) ?_;refine R9 ?_;refine S0 rfl (fun hc=>zG rfl call87 (T7 _ _ _) zS) ?_;refine zC ?_ ?_
 ·intro h29;have he:P0 g=false:=Cg8 (by intro hc;simp only[AS8,F0,AC0,m6]at hc;simp only[A8,AC0,F0,BO6,n5]at h29;rcases h29 with (k|k)|k;(omega);(rw[hc.1.2]at k;cases k);(rw[hc.2]at k;cases k));rw[he];refine R5 ?_;exact D1 rfl (A5 rfl qz61)
 intro h29;have hh:=h29;simp only[A8,v9,AD1]at hh;have hlead: -1≤g.Lead∧g.Lead≤(g.Reps.length:Int)-1:=(by have h9:=hh.2;unfold within at h9;simpa using h9);have hm:AS8 g.Reps.length=true:=(by have h9:=hh.1.1;unfold AS8;simp only[Bool.and_eq_false_iff,bne_eq_false_iff_eq]at h9;rw[AC0,m6,m6];exact h9);have hg:P0 g=((g.Lead== -1||(Al0 g g.Lead&&(M3 g g.Lead).Up))&&g.Reps.all fun r=>AG2 r g.Term):=(by unfold P0;rw[hm,hh.1.2];rfl);refine R7 ?_;refine E8 [(1,_)] _ (fun (i:Nat)=>i≤g.Reps.length∧(g.Reps.all fun r=>AG2 r g.Term)=((g.Reps.drop i).all fun r=>AG2 r g.Term)) (fun i=>[]) (fun i=>[(3,AV.int i)]) (fun i=>g.Reps.length-i) (0) ?_ (G2 A6) ?_
 ·exact zq4
 intro i hinv;refine zK ?_ ?_
 ·intro h34 k34;have hlt:i<g.Reps.length:=(by simpa using h34);obtain⟨x,hx⟩:=B2 hlt;have hsx:x.size≤1048576:=L7 (W4 hx) hrs;refine R8 ?_;refine zq122 ?_;refine R3 ?_;refine B3 rfl rfl (zG rfl call155 (CU2 _ _ X9) (A2 (A0 rfl) (A2 (A0 rfl) A9))) ?_;refine zC ?_ ?_
  ·intro h45;have he:P0 g=false:=(by rw[hg,hinv.2,J8 hx,AA7,show AG2 x g.Term=false by simpa using h45];simp);rw[he];refine R5 ?_;exact D1 rfl (A5 rfl qz61)
  intro h45;refine R6 ?_;refine F1 i (i+1) ?_ ?_ (G2 A6)
  ·exact⟨by omega,by rw[hinv.2,J8 hx,AA7,show AG2 x g.Term=true by simpa using h45];rfl⟩
  omega
 intro h34 k34;have hge:g.Reps.length≤i:=(by simpa using h34);have hall:(g.Reps.all fun r=>AG2 r g.Term)=true:=BV0;rw[hall,Bool.and_true]at hg;refine R11 ?_;refine S0 rfl (fun hc=>C2 rfl D4 F9 (A7 rfl hc) (A7 rfl hc) (Z3 (g:=g) (r:=g.Lead) ⟨by have h9:¬g.Lead<0:=(by simpa using hc);omega,by omega⟩) (by have h9:¬g.Lead<0:=(by simpa using hc);omega)) ?_;refine R6 ?_;exact D1 rfl (A5 rfl qz61)
end Go.PQ
namespace Go.M
open Go.AV
def Aa9 (many:Int):C1×Bool:=if AS8 many=true then (⟨List.replicate many.toNat ⟨true,[],0⟩,0, -1⟩,true)else (AH4,false)
theorem Br5 {p:Nat→Bool}{lo n:Nat}(h:lo<n)(hp:p n=true):y8 p lo n=some n:=by
  cases n with
  |zero=>omega
  |succ k=>unfold y8;rw[D0 qz7,D9 hp]
theorem Bz3 {p:Nat→Bool}{lo n:Nat}(h:lo<n)(hp:¬p n=true):y8 p lo n=y8 p lo (n-1):=by
  cases n with
  |zero=>omega
  |succ k=>conv=>{lhs;unfold y8};rw[D0 qz7,D0 hp];rfl
theorem DS6 (a b c:Int):As0 a (if b<c then c else b)=min a (max b c):=by
  unfold As0;rw[Int.min_def,Int.max_def];split<;>split<;>split<;>omega
def BF0 (l:List F4)(t:Int):Bool:=Aa4 t 1 l&&decide ((l.length:Int)≤60)
theorem rep_eq (r:D8)(t:Int):(!(!BF0 r.Log t|| !within r.Sure 0 r.Log.length))=AG2 r t:=by
  unfold BF0 AG2
  cases Aa4 t 1 r.Log<;>cases decide ((r.Log.length:Int)≤60)<;>cases within r.Sure 0 r.Log.length<;>rfl
theorem log_stop {t p:Int}{l:List F4}{i:Nat}{e:F4}(hx:l[i]? =some e)(h:e.Term<p∨t<e.Term∨T8 e.Rec=false):Aa4 t p (l.drop i)=false:=by
  rw[BO1 hx];unfold within
  rcases h with h|h|h
  ·rw[AC1 (show ¬p≤e.Term by omega)];rfl
  ·rw[AC1 (show ¬e.Term≤t by omega)];simp
  ·rw[h];simp
theorem log_next {t p:Int}{l:List F4}{i:Nat}{e:F4}(hx:l[i]? =some e)(h:p≤e.Term∧e.Term≤t∧T8 e.Rec=true):Aa4 t p (l.drop i)=Aa4 t e.Term (l.drop (i+1)):=by
  rw[BO1 hx];unfold within
  rw[W6 h.1,W6 h.2.1,h.2.2];rfl
theorem Ct9 (g:C1)(h:(((AS8 g.Reps.length&&within g.Term 0 200)&&(g.Lead== -1||(Al0 g g.Lead&&(M3 g g.Lead).Up))))=true):(!(g.Reps.any fun r=> !AG2 r g.Term))=P0 g:=by
  unfold P0;rw[h,Bool.true_and,List.not_any_eq_all_not];congr 1;funext r;rw[Bool.not_not]
def BU1 :N5:=⟨4,0,15,0,[],[],false⟩
def As5 :F4:=⟨1,BU1⟩
def nG0 :C1:=⟨[⟨true,[],0⟩,⟨true,[],0⟩,⟨true,[],0⟩],0, -1⟩
def nG1 :C1:=⟨[⟨true,[],0⟩,⟨true,[],0⟩,⟨true,[],0⟩],1,0⟩
def nG2 :C1:=⟨[⟨true,[As5],0⟩,⟨true,[],0⟩,⟨true,[],0⟩],1,0⟩
def nG3 :C1:=⟨[⟨true,[As5],0⟩,⟨true,[As5],0⟩,⟨true,[],0⟩],1,0⟩
def nG4 :C1:=⟨[⟨true,[As5],0⟩,⟨true,[As5],0⟩,⟨true,[As5],0⟩],1,0⟩
def nG5 :C1:=⟨[⟨true,[As5],1⟩,⟨true,[As5],0⟩,⟨true,[As5],0⟩],1,0⟩
theorem DL9 :P0 nG0=true∧P0 nG1=true∧P0 nG2=true∧P0 nG3=true∧P0 nG4=true∧P0 nG5=true:=by decide
def spN :Nat→C1
  |0=>nG2
  |1=>nG2
  |2=>nG3
  |_=>nG4
theorem DM0 {r:Nat}(hr:r<3)(h:(AA1 (spN r) (r:Int)).2=true):(AA1 (spN r) (r:Int)).1=spN (r+1):=by
  rcases r with _|_|_|r
  ·exact absurd h E5
  ·decide
  ·decide
  ·omega
theorem spN_no {r:Nat}(hr:r<3)(h:(AA1 (spN r) (r:Int)).2=false):spN r=spN (r+1):=by
  rcases r with _|_|_|r
  ·rfl
  ·exact absurd h E5
  ·exact absurd h E5
  ·omega
def AX8 (n i:Nat):List C1:=List.replicate i nG5++List.replicate (n-i) nG0
theorem Cu0 {n i:Nat}(h:i<n):(AX8 n i)[i]? =some nG0:=by
  unfold AX8;rw[Aq1 (by rw[w3];exact K9 _),w3,Nat.sub_self,List.getElem?_replicate,D9 qz7]
theorem Cc2 {n i:Nat}(h:i<n):(AX8 n i).set i nG5=AX8 n (i+1):=by
  unfold AX8;rw[List.set_append_right _ _ (by rw[w3];exact K9 _),w3,Nat.sub_self];obtain⟨m,hm⟩:∃m,n-i=m+1:=⟨n-i-1,by omega⟩;rw[hm,List.replicate_succ,Ax7,show n-(i+1)=m by omega,List.replicate_succ' (n:=i),o7];rfl
theorem Dc7 {n i:Nat}(h:i≤n):(AX8 n i).length=n:=by unfold AX8;rw[I2,w3,w3];omega
theorem Cc3 (n:Nat):AX8 n n=List.replicate n nG5:=by unfold AX8;rw[Nat.sub_self];exact T2 _
def BF1 (n:Nat)(p:List TOp):B5:=⟨p,[],List.replicate n 0, -1, -1,false,0,false,false,false⟩
def BP8 (n:Nat)(k:Nat)(l:List Str):C5:=⟨Int.tmod (k:Int) (3*(n:Int)),l,[],0, -1, -1⟩
def AX4 (n:Nat)(ls:List (List Str))(i:Nat):List C5:=(List.range i).map fun k=>BP8 n k (ls.getD k [])
def nW (cuts:List Str)(ps:List (List TOp))(ls:List (List Str)):C7:=
  ⟨0,0,List.replicate (3*(cuts.length+1)) ⟨0⟩,cuts,List.replicate (cuts.length+1) nG5,List.replicate (cuts.length+1) [],List.replicate (cuts.length+1) 0,ps.map (BF1 (cuts.length+1)),AX4 (cuts.length+1) ls ls.length⟩
theorem BO3 {n:Nat}{ls:List (List Str)}{i:Nat}{x:C5}(hi:i≤ls.length)(h:x∈AX4 n ls i):∃k l,l∈ls∧x=BP8 n k l:=by
  unfold AX4 at h;obtain⟨k,hk,rfl⟩:=n6.1 h;have hkl:=List.mem_range.1 hk;have hk2:k<ls.length:=by omega
  exact⟨k,ls[k],List.getElem_mem hk2,by rw[List.getD_eq_getElem?_getD,Q5 hk2];rfl⟩
theorem Az6 (n:Nat)(ls:List (List Str))(i:Nat):(AX4 n ls i).length=i:=by unfold AX4;rw[A8,List.length_range]
def nWi (cuts:List Str)(ps:List (List TOp))(ls:List (List Str))(i:Nat):C7:=
  ⟨0,0,List.replicate (3*(cuts.length+1)) ⟨0⟩,cuts,AX8 (cuts.length+1) i,List.replicate (cuts.length+1) [],List.replicate (cuts.length+1) 0,ps.map (BF1 (cuts.length+1)),AX4 (cuts.length+1) ls ls.length⟩
theorem nWi_all (cuts:List Str)(ps:List (List TOp))(ls:List (List Str)):nWi cuts ps ls (cuts.length+1)=nW cuts ps ls:=by unfold nWi nW;rw[Cc3]
def nOk (ps:List (List TOp)):Bool:=ps.all fun p=>decide (0<(p.length:Int))
def Af0 :C7:=⟨0,0,[],[],[],[],[],[],[]⟩
def nWR (cuts:List Str)(ps:List (List TOp))(ls:List (List Str)):C7×Bool:=if nOk ps=true then (nW cuts ps ls,true)else (Af0,false)
theorem nOk_no {ps:List (List TOp)}{i:Nat}(h:ps[i]? =some []):nOk ps=false:=by
  cases hp:nOk ps with
  |false=>rfl
  |true=>have:=V7.1 hp [] (C3 h);exact absurd this E5
theorem DM1 {ps:List (List TOp)}(h:∀p∈ps,p≠[]):nOk ps=true:=V7.2 fun p hp=>W6 (by have:=List.length_pos_iff.2 (h p hp);omega)
structure SB (m:Int)(s:E1):Prop where
  floor:0≤s.Floor∧s.Floor≤m
  leads:∀h∈s.Held,0≤h.Lead∧h.Lead≤3
theorem Dc8 {g:C1}{r:N5}(h:(AE2 g r).2=true):0≤g.Lead:=by
  unfold AE2 at h;split at h
  · rename_i hc
    rw[F0]at hc;exact(Ab8.1 hc.1.1).2.1
  ·cases h
theorem put_in {g:C1}{r:N5}(hc:(!((!P0 g||decide (g.Lead<0))|| !BJ9 r))=true):0≤g.Lead∧g.Lead<g.Reps.length:=by
  simp only[n5,v9,AD1,AB8]at hc;have gg:=o9.1 hc.1.1;rcases gg.lead with e|⟨a,b,_⟩
  ·have:=hc.1.2;omega
  ·exact⟨a,b⟩
theorem DS7 {g:C1}{r:N5}(hno:(AE2 g r).2=false)(h:(((!P0 g||decide (g.Lead<0))|| !BJ9 r)||decide ((((M3 g g.Lead).Log.map F4.cs).length:Int)≥60))=false):False:=by
  rw[A8]at h;simp only[v9,AD1,AB8]at h;have hl:AS2 g=true:=by unfold AS2;rw[h.1.1.1,W6 (by have:=h.1.1.2;omega)];rfl
  unfold AE2 at hno;rw[D9 ⟨by rw[hl,Ay4,h.1.2];rfl,by have:=h.2;omega⟩]at hno
  cases hno
theorem Cl8 {α:Type}{l:List α}{i:Nat}{x:α}(hx:l[i]? =some x):l.drop i=x::l.drop (i+1):=by
  obtain⟨h,e⟩:=G1.1 hx;rw[←e];exact List.drop_eq_getElem_cons h
theorem takeX {α:Type}{l:List α}{i:Nat}{x:α}(hx:l[i]? =some x):l.take (i+1)=l.take i++[x]:=by rw[X3,hx];rfl
theorem Cc4 {l:List H7}{i:Nat}{x:H7}(hx:l[i]? =some x):AX1 (l.take i) (l.drop i)=((BB5 x&& !((l.take i).any fun h=>h.Key==x.Key))&&AX1 (l.take (i+1)) (l.drop (i+1))):=by rw[Cl8 hx,takeX hx];rfl
theorem Cu1 {l:List H7}{i:Nat}(h:l.length≤i):AX1 (l.take i) (l.drop i)=true:=by rw[r9 h];rfl
theorem Cc5 {α:Type}{p:α→Bool}{l:List α}{i:Nat}{x:α}(hx:l[i]? =some x):(l.drop i).any p=(p x||(l.drop (i+1)).any p):=by rw[Cl8 hx,Ak6]
theorem kcomm (a b:Str):(a==b)=(b==a):=by rw[AI1,m6,m6];exact eq_comm
theorem Cu2 {l:List H7}{i:Nat}{x:H7}(hx:l[i]? =some x):x.Key.length≤D2 H7.size l∧x.Val.length≤D2 H7.size l:=by
  have h:=W4 (f:=H7.size) hx;have h2:x.size=x.Key.length+x.Val.length:=rfl;omega
end Go.M
namespace Go.PQ
open Go.Proofs Go.Proofs.Tryz
open Go Go.AV Go.M
attribute [local irreducible] OpW OpA OpS AWP J6 L6 K3 OpE K4 I5 L0 Le Ev G4 L9 Y8 Int.tmod Int.tdiv IntKind.wrap T3
theorem BW4 (g:C1)(r:Int)(up:Bool)(hs:g.size≤1048576):D6 189 [AV.agg g.cs,AV.int r,AV.bool up] (AV.bool (Ao5 g r up)):=by
  have hrs:D2 D8.size g.Reps≤1048576:=hs;have hll:g.Reps.length≤1048576:=L7 M7 hrs;have hir:within r 0 (((g.Reps.map D8.cs).length:Int)-1)=Al0 g r:=by unfold Al0;rw[A8]
  refine B0 func189 rfl ntmps189 rfl ?_;refine R3 ?_;intro b3;refine R5 ?_;refine zF rfl call81 (AS0 _ X9) (A2 (A0 rfl) A9) ?_;refine zq89 ?_;refine R5 ?_;refine L5 rfl (fun hc=>C2 rfl D4 F9 (A7 rfl hc) (A7 rfl hc) (Z3 (AN9.1 (hir▸BM7 hc))) (by have h9:=(AN9.1 (hir▸BM7 hc)).1;omega)) ?_;refine R3 ?_;refine zq77 ?_;refine R4 ?_;exact D1 rfl (A5 rfl (by exact F2 AV.bool (by rw[hir];rfl)))
theorem Cu3 (g:C1)(r:Int)(hs:g.size≤1048576):M0 364 [AV.agg g.cs,AV.int r] [] (fun _:Value=>True) (fun v=>C1.fow (AD4 g r).1 v) (fun v=>AV.tup [AV.agg (C1.fcs (AD4 g r).1 v),AV.bool (AD4 g r).2]):=by
 refine C8 func364 rfl ntmps364 rfl ?_;refine R3 ?_;intro b2;refine R1 ?_;intro b4;refine R7 ?_;refine zF rfl call189 (BW4 _ _ _ X9) (A2 (A0 rfl) (A2 (A0 rfl) (A2 Ao8 A9))) ?_;refine zC ?_ ?_
 ·intro h10;have he:AD4 g r=(AH4,false):=(by unfold AD4;rw[D0 BF6]);rw[he];exact zq193
 intro h10;have hu:Ao5 g r true=true:=BF6;obtain⟨gg,hr,hup⟩:=AV9.1 hu;have hx:=Z3 hr;have he:AD4 g r=(⟨g.Reps.set r.toNat ⟨false,(M3 g r).Log,(M3 g r).Sure⟩,g.Term,if g.Lead=r then -1 else g.Lead⟩,true):=D9 hu;rw[he];refine R4 ?_;refine zI [] rfl call125 (Aw6 g hs) G6 rfl ?_;intro x13 ok13;refine R1 ?_;intro b6;refine zq129 ?_;refine zC ?_ ?_
 ·intro h22;have k22:=J9 h22;(try simp only[A8]at k22);rw[D9 k22];refine R11 ?_;exact zq110
 intro h22;have k22:=J4 h22;(try simp only[A8]at k22);rw[D0 k22];refine R8 ?_;exact zq110
theorem Cg9 (g:C1)(r:Int)(hs:g.size≤1048576):D6 364 [AV.agg g.cs,AV.int r] (AV.tup [AV.agg (AD4 g r).1.cs,AV.bool (AD4 g r).2]):=
  J5 (Cu3 g r hs) fun v _=>AQ7 (D7 (C1.fl _ v) (D7 H9 Z6))
theorem Cu4 (g:C1)(r:Int)(hs:g.size≤1048576):M0 365 [AV.agg g.cs,AV.int r] [] (fun _:Value=>True) (fun v=>C1.fow (AF6 g r).1 v) (fun v=>AV.tup [AV.agg (C1.fcs (AF6 g r).1 v),AV.bool (AF6 g r).2]):=by
 refine C8 func365 rfl ntmps365 rfl ?_;refine R3 ?_;intro b2;refine R1 ?_;intro b4;refine R7 ?_;refine zF rfl call189 (BW4 _ _ _ X9) (A2 (A0 rfl) (A2 (A0 rfl) (A2 Ao8 A9))) ?_;refine zC ?_ ?_
 ·intro h10;have he:AF6 g r=(AH4,false):=(by unfold AF6;rw[D0 BF6]);rw[he];exact zq193
 intro h10;have hu:Ao5 g r false=true:=BF6;obtain⟨gg,hr,hup⟩:=AV9.1 hu;have hx:=Z3 hr;have he:AF6 g r=(⟨g.Reps.set r.toNat ⟨true,(M3 g r).Log,(M3 g r).Sure⟩,g.Term,g.Lead⟩,true):=D9 hu;rw[he];refine R4 ?_;refine zI [] rfl call125 (Aw6 g hs) G6 rfl ?_;intro x13 ok13;refine R1 ?_;intro b6;refine zq129 ?_;refine R8 ?_;exact zq110
theorem Ch0 (g:C1)(r:Int)(hs:g.size≤1048576):D6 365 [AV.agg g.cs,AV.int r] (AV.tup [AV.agg (AF6 g r).1.cs,AV.bool (AF6 g r).2]):=
  J5 (Cu4 g r hs) fun v _=>AQ7 (D7 (C1.fl _ v) (D7 H9 Z6))
theorem Cu5 {p:Prop}(h:p:=by
 refine B0 tw11x0 rfl tw11x1 rfl ?_;refine Y0 (t:=0) rfl fun hl=> ?_;try simp only[A8]at hl
 refine zC ?_ ?_
 ·intro h5;have k5:=J9 h5;(try simp only[A8]at k5);rw[DS2 (show l.length=0 by omega)];exact zq40
 intro h5;have k5:=J4 h5;(try simp only[A8]at k5);obtain⟨e,hx⟩:=B2 (show l.length-1<l.length by omega);have hx2:l[(((l.map F4.cs).length:Int)-1).toNat]? =some e:=(by rw[A8,show ((l.length:Int)-1).toNat=l.length-1 by omega];exact hx);rw[Dc6 hx];refine R7 ?_;refine A1 rfl (C2 rfl L3 Q1 zA zA hx2 BF8) ?_;refine R5 ?_;exact D1 rfl (A5 rfl B7)):p:=h
namespace tw11n0
def tw11x0 :=@Tryz.func249
def tw11x1 :=@Tryz.ntmps249
end tw11n0
open tw11n0 in
theorem BH2 (l:List F4):D6 249 [AV.list 8 (l.map F4.cs)] (AV.int (AW8 l)):=Cu5
theorem Cu6 (a b:List F4):D6 190 [AV.list 8 (a.map F4.cs),AV.list 8 (b.map F4.cs)] (AV.bool (Ae9 a b)):=by
 refine B0 Tryz.func190 rfl Tryz.ntmps190 rfl ?_;refine R8 ?_;refine zF rfl Tryz.call249 (BH2 _) G6 ?_;refine R1 ?_;refine zF rfl Tryz.call249 (BH2 _) G6 ?_;refine zC ?_ ?_
 ·intro h9;have k9:=Af4 h9;(try simp only[A8]at k9);have he:Ae9 a b=decide (AW8 b<AW8 a):=(by unfold Ae9;rw[beq_eq_false_iff_ne.2 k9];simp);rw[he];refine R3 ?_;refine zF rfl Tryz.call249 (BH2 _) G6 ?_;refine R1 ?_;refine zF rfl Tryz.call249 (BH2 _) G6 ?_;refine R4 ?_;exact D1 rfl (A5 rfl (by first|rfl|(rw[A8,A8])))
 intro h9;have k9:=AI9 h9;(try simp only[A8]at k9);have he:Ae9 a b=decide ((b.length:Int)<(a.length:Int)):=(by unfold Ae9;rw[k9];simp);rw[he];refine R11 ?_;exact D1 rfl (A5 rfl (by first|rfl|(rw[A8,A8])))
theorem Cu7 (g:C1)(r:Int)(hs:g.size≤1048576):M0 119 [AV.agg g.cs,AV.int r] [] (fun _:Value=>True) (fun v=>C1.fow (V8 g r).1 v) (fun v=>AV.tup [AV.agg (C1.fcs (V8 g r).1 v),AV.bool (V8 g r).2]):=by
 refine C8 Tryz.func119 rfl Tryz.ntmps119 rfl ?_;refine R3 ?_;intro b2;refine R1 ?_;intro b4;refine R7 ?_;refine zF rfl Tryz.call189 (BW4 _ _ _ X9) (A2 (A0 rfl) (A2 (A0 rfl) (A2 Ao8 A9))) ?_;refine zC ?_ ?_
 ·intro h17;have he:V8 g r=(AH4,false):=(by unfold V8;rw[D0 (by rintro ⟨a,b⟩;simp only[F0,n5]at a;rw[a.1,a.2]at h17;cases h17)]);rw[he];exact zq28
 intro h17;have hh:=h17;simp only[v9,AD1]at hh;obtain⟨hu,ht⟩:=hh;obtain⟨gg,hr,hup⟩:=AV9.1 hu;have hxr:=Z3 hr;have hll:g.Reps.length≤5:=(by have h9:=gg.many;omega);have htm:=gg.term;refine R11 ?_;refine K5 [(1,_),(2,_),(4,_),(5,_)] _ (fun (i:Nat) (m:Nat)=>i≤g.Reps.length∧m≤i∧m=((g.Reps.take i).filter fun x=>x.Up&& !Ae9 x.Log (M3 g r).Log).length) (fun i m=>[]) (fun i m=>[(6,AV.int m),(7,AV.int i)]) (fun i m=>g.Reps.length-i) (0) (0) ?_ (G2 A6) ?_
 ·exact⟨E4 _,K9 _,rfl⟩
 intro i m hinv;refine zK ?_ ?_
 ·intro h23 k23;have hlt:i<g.Reps.length:=Bu2;obtain⟨x,hx⟩:=B2 hlt;refine R8 ?_;refine zq122 ?_;refine R6 ?_;refine M1 rfl (Q3 rfl rfl rfl) (fun hc=>C2 rfl D4 F9 (A7 rfl hc) (A7 rfl hc) hx qz6) ?_;refine R5 ?_;refine M1 rfl (Q3 rfl rfl rfl) (fun hc=>C2 rfl D4 F9 (A7 rfl hc) (A7 rfl hc) hxr qz7) ?_;refine R2 ?_;refine M1 rfl (Q3 rfl rfl rfl) (fun hc=>zG rfl Tryz.call190 (Cu6 _ _) zS) ?_;refine zC ?_ ?_
  ·intro h47;refine R10 ?_;refine H5 i m (i+1) (m+1) ?_ ?_ (G2 A6)
   ·exact⟨by omega,by omega,by rw[AR9 hx,D9 h47,hinv.2.2]⟩
   omega
  intro h47;refine R6 ?_;refine H5 i m (i+1) (m) ?_ ?_ (G2 A6)
  ·exact⟨by omega,by omega,by rw[AR9 hx,D0 (by rw[h47];decide),Nat.add_zero];exact hinv.2.2⟩
  omega
 intro h23 k23;have hge:g.Reps.length≤i:=Bu2;have hm:=hinv.2.2;rw[S7 hge]at hm;refine R5 ?_;refine A1 rfl (Ad0 rfl L1 zA qz1) ?_;refine zK ?_ ?_
 ·intro h55 k55;have he:V8 g r=(AH4,false):=(by unfold V8;rw[D0 (by rintro ⟨a,b⟩;unfold BK1 at b;have h9:=AB7 b;rw[←hm]at h9;omega)]);rw[he];exact zq28
 intro h55 k55;have he:V8 g r=(⟨g.Reps,g.Term+1,r⟩,true):=(by unfold V8;rw[D9 ⟨by rw[hu,ht];rfl,by unfold BK1;rw[←hm];exact W6 qz7⟩]);rw[he];refine R4 ?_;refine zI [] rfl Tryz.call125 (Aw6 g hs) G6 rfl ?_;intro x58 ok58;refine R1 ?_;intro b8;refine R23 ?_;exact I9 [1] x58 (trivial) rfl B7 (j6 rfl E5 (G0 (F5 (ys:=_) 2 rfl rfl K6 C6 rfl) V6))
theorem Ch1 (g:C1)(r:Int)(hs:g.size≤1048576):D6 119 [AV.agg g.cs,AV.int r] (AV.tup [AV.agg (V8 g r).1.cs,AV.bool (V8 g r).2]):=
  J5 (Cu7 g r hs) fun v _=>AQ7 (D7 (C1.fl _ v) (D7 H9 Z6))
theorem DS8 (g:C1)(r:Int)(hs:g.size≤1048576):M0 250 [AV.agg g.cs,AV.int r] [] (fun _:Value=>True) (fun v=>C1.fow (AA1 g r).1 v) (fun v=>AV.tup [AV.agg (C1.fcs (AA1 g r).1 v),AV.bool (AA1 g r).2]):=by
 refine C8 Tryz.func250 rfl Tryz.ntmps250 rfl ?_;refine R3 ?_;intro b2;refine R1 ?_;intro b4;refine R7 ?_;refine zF rfl Tryz.call189 (BW4 _ _ _ X9) (A2 (A0 rfl) (A2 (A0 rfl) (A2 Ao8 A9))) ?_;refine zC ?_ ?_
 ·intro h22;have he:AA1 g r=(AH4,false):=(by unfold AA1;rw[D0 (by rintro ⟨a,b⟩;simp only[F0,H6]at a;rw[a.1,AC1 (show ¬g.Lead<0 by omega),beq_eq_false_iff_ne.2 b]at h22;cases h22)]);rw[he];exact zq170
 intro h22;have hh:=h22;simp only[v9,AD1,AB8,beq_eq_false_iff_ne]at hh;obtain⟨⟨hu,hl0⟩,hne⟩:=hh;obtain⟨gg,hr,hup⟩:=AV9.1 hu;have hld:0≤g.Lead∧g.Lead<g.Reps.length:=(by rcases gg.lead with e|⟨a,b,_⟩;omega;exact⟨a,b⟩);have hxr:=Z3 hr;have hxl:=Z3 hld;have hls:D2 F4.size (M3 g g.Lead).Log≤1048576:=L7 (W4 (f:=D8.size) hxl) hs;have he:AA1 g r=(AW7 g r ⟨true,(M3 g g.Lead).Log,min ((M3 g g.Lead).Log.length:Int) (max (M3 g r).Sure (M3 g g.Lead).Sure)⟩,true):=(by unfold AA1;rw[D9 ⟨by rw[hu,W6 qz7];rfl,hne⟩]);rw[he,←DS6];refine R4 ?_;refine zI [] rfl Tryz.call125 (Aw6 g hs) G6 rfl ?_;intro x25 ok25;refine R1 ?_;intro b6;refine R8 ?_;refine zq148 ?_;refine zF rfl Tryz.call195 (BL3 _ hls) G6 ?_;refine R3 ?_;refine J3 23 E3 E3 rfl ?_;refine R9 ?_;refine B3 rfl rfl (C2 rfl D4 F9 zA zA hxr qz7) ?_;refine R6 ?_;refine B3 rfl rfl (C2 rfl D4 F9 zA zA hxl qz7) ?_;refine R2 ?_;refine B3 rfl rfl (zG rfl Tryz.call193 (Br2 _ _) F3) ?_;refine B3 rfl rfl (zG rfl Tryz.call89 (Br0 _ _) F3) ?_;refine R1 ?_;refine B3 rfl rfl (I4 1 rfl D4 F9 zA rfl zA qz7 AF7) ?_;refine R1 ?_;refine e8 1 rfl rfl rfl zA zA (e6 _) rfl F9 rfl AE8 ?_;refine R8 ?_;exact I9 [1] x25 (trivial) rfl Cl4 (j6 rfl E5 (G0 (F5 (ys:=_) 2 rfl rfl K6 C6 rfl) V6))
theorem DE8 (g:C1)(r:Int)(hs:g.size≤1048576):D6 250 [AV.agg g.cs,AV.int r] (AV.tup [AV.agg (AA1 g r).1.cs,AV.bool (AA1 g r).2]):=
  J5 (DS8 g r hs) fun v _=>AQ7 (D7 (C1.fl _ v) (D7 H9 Z6))
theorem DE9 (g:C1)(l:List F4)(n:Nat)(hs:g.size≤1048576)(hn:n≤1048576):D6 303 [AV.agg g.cs,AV.list 8 (l.map F4.cs),AV.int (n:Int)] (AV.int ((g.Reps.filter fun x=>AC4 x.Log l n).length:Nat)):=by
 have hll:g.Reps.length≤1048576:=L7 (M7 (f:=D8.size)) hs;refine B0 Tryz.func303 rfl Tryz.ntmps303 rfl ?_;refine R3 ?_;intro b3;refine R12 ?_;refine K5 [(1,_),(2,_),(3,_),(6,_)] _ (fun (i:Nat) (m:Nat)=>i≤g.Reps.length∧m≤i∧m=((g.Reps.take i).filter fun x=>AC4 x.Log l n).length) (fun i m=>[]) (fun i m=>[(7,AV.int m),(8,AV.int i)]) (fun i m=>g.Reps.length-i) (0) (0) ?_ (G2 A6) ?_
 ·exact⟨E4 _,K9 _,rfl⟩
 intro i m hinv;refine zK ?_ ?_
 ·intro h13 k13;have hlt:i<g.Reps.length:=(by simpa using h13);obtain⟨x,hx⟩:=B2 hlt;refine R8 ?_;refine zq116 ?_;refine R4 ?_;refine zF rfl Tryz.call88 (Cg7 x.Log l n (L7 (W4 (f:=D8.size) hx) hs) hn) AD5 ?_;refine zC ?_ ?_
  ·intro h24;refine R10 ?_;refine H5 i m (i+1) (m+1) ?_ ?_ (G2 A6)
   ·exact⟨by omega,by omega,by rw[AR9 hx,D9 h24,hinv.2.2]⟩
   omega
  intro h24;refine R6 ?_;refine H5 i m (i+1) (m) ?_ ?_ (G2 A6)
  ·exact⟨by omega,by omega,by rw[AR9 hx,D0 (by rw[h24];decide),Nat.add_zero];exact hinv.2.2⟩
  omega
 intro h13 k13;have hge:g.Reps.length≤i:=(by simpa using h13);have hm:=hinv.2.2;rw[S7 hge]at hm;rw[←hm];exact zq216
theorem DF0 (g:C1)(hs:g.size≤1048576):M0 251 [AV.agg g.cs] [] (fun _:Value=>True) (fun v=>C1.fow (AK4 g).1 v) (fun v=>AV.tup [AV.agg (C1.fcs (AK4 g).1 v),AV.bool (AK4 g).2]):=by
 refine C8 Tryz.func251 rfl Tryz.ntmps251 rfl ?_;refine R3 ?_;intro b1;refine R1 ?_;intro b2;refine R6 ?_;refine zF rfl Tryz.call81 (AS0 _ X9) (A2 (A0 rfl) A9) ?_;refine zC ?_ ?_
 ·intro h14;have he:AK4 g=(AH4,false):=qz156;rw[he];exact zq181
 intro h14;have hh:=h14;simp only[v9,AD1,AB8]at hh;have hlead:AS2 g=true:=(by unfold AS2;rw[hh.1,W6 qz7];rfl);obtain⟨gg,l0,l1,hup⟩:=Ab8.1 hlead;have hxl:=Z3 ⟨l0,l1⟩;have hgr:=gg.reps _ (AE6 ⟨l0,l1⟩);obtain⟨L,hL⟩:∃L,M3 g g.Lead=L:=⟨_,rfl⟩;rw[hL]at hxl hgr;have hsr:=hgr.sure;have hl6:=hgr.len;have hm5:g.Reps.length≤5:=(by have h9:=gg.many;omega);refine R4 ?_;refine zI [] rfl Tryz.call125 (Aw6 g hs) G6 rfl ?_;intro x17 ok17;refine R1 ?_;intro b4;refine R8 ?_;refine zq148 ?_;intro b5;refine R8 ?_;try rw[show AV.ik IntKind.i64 ((n:Int)-1)=AV.int ((n-1:Nat):Int)from F2 AV.int (show (n:Int)-1=((n-1:Nat):Int) by omega)]
 refine R3 ?_;rw[show (List.map F4.cs L.Log).length=L.Log.length from A8 _];refine E8 [(1,_),(2,_),(4,_),(5,_)] _ (fun (n:Nat)=>n≤L.Log.length∧y8 (AQ3 g) L.Sure.toNat L.Log.length=y8 (AQ3 g) L.Sure.toNat n) (fun n=>[]) (fun n=>[(6,AV.int n)]) (fun n=>n) (L.Log.length) ?_ (G2 A6) ?_
 ·exact⟨K9 _,rfl⟩
 intro n hinv;refine zK ?_ ?_
 ·intro h30 k30;have hgt:L.Sure.toNat<n:=by omega
  obtain⟨x,hx⟩:=B2 (show n-1<L.Log.length by omega);have hx2:L.Log[((n:Int)-1).toNat]? =some x:=(by rw[show ((n:Int)-1).toNat=n-1 by omega];exact hx);have hadv:AQ3 g n=((x.Term==g.Term)&&decide ((g.Reps.length:Int)<2*((g.Reps.filter fun x=>AC4 x.Log L.Log n).length:Int))):=(by unfold AQ3 BK1;rw[hL,hx,AD8];congr 1;rw[AI1,H6,m6];exact⟨fun e=>by injection e,fun e=>by rw[e]⟩);have hcnt:=List.length_filter_le (fun x=>AC4 x.Log L.Log n) g.Reps;refine R9 ?_;refine B3 rfl rfl (C2 rfl L3 Q1 zA zA hx2 qz7) ?_;refine R10 ?_;refine M1 rfl (Q3 rfl rfl rfl) (fun hc=>zG rfl Tryz.call303 (DE9 _ _ _ X9 X9) (A2 (A7 rfl hc) (A2 (A7 rfl hc) (A2 (A7 rfl hc) A9)))) ?_;refine M1 rfl (Q3 rfl rfl rfl) (fun hc=>Ad0 rfl L1 (A7 rfl hc) qz6) ?_;refine zC ?_ ?_
  ·intro h54;have hp:AQ3 g n=true:=(by rw[hadv];simpa using h54);have hfin:y8 (AQ3 g) L.Sure.toNat L.Log.length=some n:=(by rw[hinv.2];exact Br5 hgt hp);have he:AK4 g=(AW7 g g.Lead ⟨L.Up,L.Log,(n:Int)⟩,true):=Ck4;rw[he];refine R7 ?_;refine A1 rfl (I4 2 rfl D4 F9 zA rfl zA qz7 AF7) ?_;refine A1 rfl (O1 2 rfl q6 rfl E9 zA rfl rfl qz36) ?_;refine q9 2 rfl rfl rfl zA zA (X2 _ _) rfl E9 qz36 rfl ?_;exact zq206
  intro h54;have hp:¬AQ3 g n=true:=(by rw[hadv];simpa using h54);have hdown:y8 (AQ3 g) L.Sure.toNat L.Log.length=y8 (AQ3 g) L.Sure.toNat (n-1):=(by rw[hinv.2];exact Bz3 hgt hp);refine R4 ?_;try rw[show AV.ik IntKind.i64 ((n:Int)-1)=AV.int ((n-1:Nat):Int)from F2 AV.int (show (n:Int)-1=((n-1:Nat):Int) by omega)]
  refine R2 ?_;refine F1 n (n-1) ?_ ?_ (G2 A6)
  ·exact⟨by omega,hdown⟩
  omega
 intro h30 k30;have hfin:y8 (AQ3 g) L.Sure.toNat L.Log.length=none:=qz211;have he:AK4 g=(g,true):=Ck4;rw[he];exact zq206
theorem Cu8 (g:C1)(hs:g.size≤1048576):D6 251 [AV.agg g.cs] (AV.tup [AV.agg (AK4 g).1.cs,AV.bool (AK4 g).2]):=
  J5 (DF0 g hs) fun v _=>AQ7 (D7 (C1.fl _ v) (D7 H9 Z6))
theorem Cu9 (many:Int):M0 49 [AV.int many] [] (fun _:Value=>True) (fun v=>C1.fow (Aa9 many).1 v) (fun v=>AV.tup [AV.agg (C1.fcs (Aa9 many).1 v),AV.bool (Aa9 many).2]):=by
 refine C8 Tryz.func49 rfl Tryz.ntmps49 rfl ?_;refine R3 ?_;intro b2;refine zC ?_ ?_
 ·intro h11;have he:Aa9 many=(AH4,false):=(by unfold Aa9 AS8;rw[D0 (by simp only[F0,BO6]at h11;simp[h11.1,h11.2])]);rw[he];exact zq28
 intro h11;have hm:many=3∨many=5:=(by simp only[Bool.and_eq_false_iff,bne_eq_false_iff_eq]at h11;exact h11);obtain⟨n,rfl⟩:∃n:Nat,many=(n:Int):=⟨many.toNat,by omega⟩;have he:Aa9 (n:Int)=(⟨List.replicate n ⟨true,[],0⟩,0, -1⟩,true):=(by unfold Aa9 AS8;rw[D9 (by rw[AC0,m6,m6];exact hm)];rfl);rw[he];refine R3 ?_;refine S3 rfl rfl rfl rfl D4 F9 ?_;intro v13;refine O7 0 rfl fun one_v13=> ?_;refine A1 rfl (Q7 (places:=#[(0,1),(1,1),(2,1)]) rfl Y7 Tryz.zeroValue38 (fun w=>by kernel_rfl) rfl (B6 zA (F6 one_v13) (B6 L1 (X2 _ _) N6)) rfl) ?_;refine R1 ?_;intro b4;refine R8 ?_;refine zL [0,0] ?_;refine K5 [(0,_),(2,_),(3,_),(4,_)] _ (fun (i:Nat) (v:Value)=>i≤n) (fun i v=>[.box b4 38 [AV.is v,AV.int 0,AV.int (-1)],.arr v 70 3 ((List.replicate i (⟨true,[],0⟩:D8)).map D8.cs)]) (fun i v=>[(5,AV.int i)]) (fun i v=>n-i) (0) (v13) ?_ (I1 B7 A6) ?_
 ·exact E4 _
 intro i v hinv;refine zK ?_ ?_
 ·intro h17 k17;refine R9 ?_;refine I0 (by':=40) 1 rfl rfl rfl rfl D4 Tryz.type70 rfl rfl rfl rfl rfl rfl zA zA rfl (by simp only[A8,w3,X4];omega) ?_;intro v25_2;refine R1 ?_;refine O7 1 rfl fun one_v25_2=> ?_;refine N2 0 rfl rfl rfl zA zA (F6 one_v25_2) rfl AR1 rfl ?_;refine R6 ?_;refine H5 i v (i+1) (v25_2) ?_ ?_ (Le.trans (B4 [0,0] rfl) (I1 qz224 A6))
  ·exact qz7
  omega
 intro h17 k17;have hge:i=n:=by omega
 subst hge;refine R8 ?_;exact I9 [1] v (trivial) rfl B7 (j6 rfl E5 (G0 (F5 (ys:=_) 2 rfl rfl K6 C6 rfl) V6))
theorem Ch2 (many:Int):D6 49 [AV.int many] (AV.tup [AV.agg (Aa9 many).1.cs,AV.bool (Aa9 many).2]):=
  J5 (Cu9 many) fun v _=>AQ7 (D7 (C1.fl _ v) (D7 H9 Z6))
end Go.PQ
namespace Go.PQ
open Go.Proofs Go.Proofs.Tryz
open Go Go.AV Go.M
attribute [local irreducible] OpW OpA OpS AWP J6 L6 K3 OpE K4 I5 L0 Le Ev G4 L9 Y8 Int.tmod Int.tdiv IntKind.wrap T3
theorem BZ5 (g:C1)(r:Int)(hl:g.Reps.length≤1048576):D6 98 [AV.agg g.cs,AV.int r] (AV.bool (Al0 g r)):=by
  refine B0 func98 rfl ntmps98 rfl ?_;refine R3 ?_;intro b2;refine R9 ?_;refine zF rfl call29 (Z0 _ _ _) Ax5 ?_;refine R3 ?_;exact D1 rfl (A5 rfl (by exact F2 AV.bool (by unfold Al0;rw[A8])))
theorem Br6 (n:Int):D6 97 [AV.int n] (AV.bool (AS8 n)):=by
  refine B0 func97 rfl ntmps97 rfl ?_;refine R15 ?_;exact zq16
theorem DS9 (l:List F4)(t:Int)(hll:l.length≤1048576)(hs:∀e∈l,e.size≤1048576):D6 101 [AV.list 8 (l.map F4.cs),AV.int t] (AV.bool (BF0 l t)):=by
 refine B0 func101 rfl ntmps101 rfl ?_;refine R12 ?_;refine K5 [(0,_),(1,_),(7,_),(8,_)] _ (fun (i:Nat) (p:Int)=>(i≤l.length∧1≤p)∧((i=0∧p=1)∨(0<i∧∃y,l[i-1]? =some y∧y.Term=p))∧Aa4 t 1 l=Aa4 t p (l.drop i)) (fun i p=>[]) (fun i p=>[(9,AV.int i)]) (fun i p=>l.length-i) (0) (1) ?_ (G2 A6) ?_
 ·exact⟨⟨E4 _,by decide⟩,.inl ⟨rfl,rfl⟩,rfl⟩
 intro i p hinv;refine zK ?_ ?_
 ·intro h10 k10;have hlt:i<l.length:=BF6;obtain⟨x,hx⟩:=B2 hlt;have hsx:x.Rec.size≤1048576:=hs x (C3 hx);obtain⟨y,hy⟩:=B2 (show i-1<l.length by omega);have hp:(i=0∧p=1)∨(0<i∧y.Term=p):=(by rcases hinv.2.1 with h9|⟨h9,z,hz,h8⟩;exact .inl h9;rw[hy]at hz;injection hz with hz;subst hz;exact .inr ⟨h9,h8⟩);refine R6 ?_;refine zq96 ?_;refine R2 ?_;intro b6;refine R8 ?_;refine B3 rfl rfl (zG rfl call29 (Z0 _ _ _) Ax5) ?_;refine R3 ?_;refine M1 rfl (Y6 rfl rfl rfl) (fun hc=>BC4 _ 0 rfl (A7 rfl hc) rfl AK0 y9 rfl rfl) ?_;refine M1 rfl (Y6 rfl rfl rfl) (fun hc=>zG rfl call167 (Az3 _ X9) (A2 (A7 rfl hc) A9)) ?_;refine R11 ?_;refine M1 rfl (Y9 rfl rfl rfl) (fun hc=>C2 rfl L3 Q1 (A7 rfl hc) (A7 rfl hc) hy (by have h9:=AB7 (BM7 hc);omega)) ?_;refine zC ?_ ?_
  ·intro h39;have he:BF0 l t=false:=(by unfold BF0;rw[hinv.2.2,log_stop hx (by by_cases hgr:T8 x.Rec=false;exact .inr (.inr hgr);have h9:x.Term<p∨t<x.Term:=(by simp only[within,AC0,n5,Bool.and_eq_false_iff,AB8,F0,H6]at h39;rcases hp with ⟨h0,h1⟩|⟨h0,h1⟩<;>rcases h39 with (h9|h9)|h9<;>first|exact absurd h9 hgr|omega);exact h9.elim .inl fun h8=> .inr (.inl h8))];rfl);rw[he];refine R5 ?_;exact D1 rfl (A5 rfl (by first|rfl|(rw[A8])))
  intro h39;have hgo:p≤x.Term∧x.Term≤t∧T8 x.Rec=true:=(by simp only[within,v9,AD1,F0,H6,Bool.and_eq_false_iff,AB8]at h39;obtain⟨⟨⟨a1,a2⟩,a3⟩,a4⟩:=h39;refine⟨?_,a2,a3⟩;rcases hp with ⟨h0,h1⟩|⟨h0,h1⟩<;>omega);refine R5 ?_;refine H5 i p (i+1) (x.Term) ?_ ?_ (T4 1 A6)
  ·exact⟨⟨by omega,by omega⟩,.inr ⟨by omega,x,hx,rfl⟩,hinv.2.2.trans (log_next hx hgo)⟩
  omega
 intro h10 k10;have hge:l.length≤i:=BF6;have he:BF0 l t=decide ((l.length:Int)≤60):=(by unfold BF0;rw[hinv.2.2,r9 hge];rfl);rw[he];refine R9 ?_;exact D1 rfl (A5 rfl (by first|rfl|(rw[A8])))
theorem CK6 (g:C1)(r:D8)(h:r.size≤1048576):D6 100 [AV.agg r.cs,AV.eptr g.cs] (AV.bool (!AG2 r g.Term)):=by
  refine B0 func100 rfl ntmps100 rfl ?_;refine R3 ?_;intro b2;refine R8 ?_;refine zF rfl call101 (DS9 r.Log g.Term (L7 (M7 (f:=F4.size)) h) (fun e he=>by obtain⟨i,hi⟩:=i5 he;exact L7 (W4 (f:=F4.size) hi) h)) F3 ?_;refine R7 ?_;refine S0 rfl (fun hc=>zG rfl call29 (Z0 _ _ _) zS) ?_;refine R5 ?_;exact D1 rfl (A5 rfl (by exact F2 AV.bool (by rw[←rep_eq,Bool.not_not,A8])))
theorem AJ0 (g:C1)(hs:g.size≤1048576):D6 26 [AV.agg g.cs] (AV.bool (P0 g)):=by
 have hrs:D2 D8.size g.Reps≤1048576:=hs;have hgl:g.Reps.length≤1048576:=L7 M7 hrs;have hm:∀r∈g.Reps,r.size≤1048576:=fun r hr=>by obtain⟨i,hi⟩:=i5 hr;exact L7 (W4 (f:=D8.size) hi) hrs
 refine B0 func26 rfl ntmps26 rfl ?_;refine R3 ?_;intro b1;refine R8 ?_;refine zF rfl call97 (Br6 _) G6 ?_;refine R4 ?_;refine S0 rfl (fun hc=>zG rfl call29 (Z0 _ _ _) (A2 (A7 rfl hc) AT1)) ?_;refine R10 ?_;refine AF2 rfl rfl (Y9 rfl rfl rfl) (fun hc=>zG rfl call98 (BZ5 _ _ AI6) (A2 (A7 rfl hc) (A2 (A7 rfl hc) A9))) ?_;refine R5 ?_;refine AF2 rfl rfl (Y9 rfl rfl rfl) (fun hc=>C2 rfl D4 F9 (A7 rfl hc) (A7 rfl hc) (Z3 (AN9.1 (BM7 hc))) (by have h9:=(AN9.1 (BM7 hc)).1;omega)) ?_;refine zC ?_ ?_
 ·intro h34;have he:P0 g=false:=(by unfold P0;rw[A8]at h34;cases h1:AS8 g.Reps.length<;>cases h2:within g.Term 0 200<;>cases h3:Al0 g g.Lead<;>cases h4:(M3 g g.Lead).Up<;>cases h5:(g.Lead== -1)<;>simp_all);rw[he];refine R5 ?_;exact D1 rfl (A5 rfl (by first|rfl|exact F2 AV.bool (Ct9 g hok)))
 intro h34;have hok:(((AS8 g.Reps.length&&within g.Term 0 200)&&(g.Lead== -1||(Al0 g g.Lead&&(M3 g g.Lead).Up))))=true:=(by rw[A8]at h34;cases h1:AS8 g.Reps.length<;>cases h2:within g.Term 0 200<;>cases h3:Al0 g g.Lead<;>cases h4:(M3 g g.Lead).Up<;>cases h5:(g.Lead== -1)<;>simp_all);refine R5 ?_;refine A1 rfl (Ag8 rfl rfl G6) ?_;refine A1 rfl (n2 rfl call99 rfl (BR9 _ _ _ Au5) (T9 _) (N7 (evb (A0 rfl)) (N7 (AC7 (AV7 0 (A0 rfl) rfl) (AL4 call100 (fun r (h:r.size≤1048576)=>CK6 _ r h))) o8))) ?_;refine R4 ?_;exact D1 rfl (A5 rfl (by first|rfl|exact F2 AV.bool (Ct9 g hok)))
end Go.PQ
namespace Go.AV
open Go
theorem CE2 {P:Program}{f:FuncId}{xs:List AV}{ow:List Own}{α:Type}{ok ok':α→Prop}{O:α→List Own}{V:α→AV}(h:∀a,ok a→ok' a)(hs:K3 P f xs ow ok O V):K3 P f xs ow ok' O V:=
  fun R w vs hr hd hk hn=>Calls.mono (hs R w vs hr hd hk hn) fun e w' ⟨a,v,R',h1,h2⟩=>⟨a,v,R',h a h1,h2⟩
theorem Dc9 {P:Program}{f:FuncId}{xs:List AV}{ow:List Own}{α β:Type}{ok:α→Prop}{ok':β→Prop}{O:α→List Own}{V:α→AV}{O':β→List Own}{V':β→AV}(g:α→β)(h:∀a,ok a→ok' (g a)∧O a=O' (g a)∧V a=V' (g a))(hs:K3 P f xs ow ok O V):K3 P f xs ow ok' O' V':=
  fun R w vs hr hd hk hn=>Calls.mono (hs R w vs hr hd hk hn) fun e w' ⟨a,v,R',h1,h2,h3,h4⟩=>⟨g a,v,R',(h a h1).1,h2,by rw[←(h a h1).2.2];exact h3,by rw[←(h a h1).2.1];exact h4⟩
end Go.AV
namespace Go.PQ
open Go.Proofs Go.Proofs.Tryz
open Go Go.AV Go.M
attribute [local irreducible] OpW OpA OpS AWP J6 L6 K3 OpE K4 I5 L0 Le Ev G4 L9
theorem CK7 (l:List Int)(a b:Int):D6 80 [ints l,AV.int a,AV.int b] (AV.bool (l.all fun g=>within g a b)):=by
 refine B0 func80 rfl ntmps80 rfl ?_;refine Y0 (t:=0) rfl fun hl=> ?_;try simp only[A8]at hl
 refine R12 ?_;refine E8 [(1,_),(2,_),(9,_),(10,_)] _ (fun (i:Nat)=>i≤l.length∧(l.all fun g=>within g a b)=((l.drop i).all fun g=>within g a b)) (fun i=>[]) (fun i=>[(11,AV.int i)]) (fun i=>l.length-i) (0) ?_ (G2 A6) ?_
 ·exact zq4
 intro i hinv;refine zK ?_ ?_
 ·intro h12 k12;have hlt:i<l.length:=by omega
  obtain⟨x,hx⟩:=B2 hlt;refine zq205 ?_;refine R8 ?_;refine zF rfl call87 (T7 _ _ _) AD5 ?_;refine zC ?_ ?_
  ·intro h19;refine R5 ?_;exact D1 rfl (A5 rfl qz172)
  intro h19;refine R5 ?_;refine F1 i (i+1) ?_ ?_ (G2 A6)
  ·exact⟨by omega,by rw[hinv.2,Au9 hx Bd9]⟩
  omega
 intro h12 k12;have hge:l.length≤i:=by omega
 refine R6 ?_;exact D1 rfl (A5 rfl qz172)
theorem AU7 (l:List Int)(hl:l.length≤4194304):M0 124 [ints l] [] (fun _:Value=>True) (fun v=>[.arr v 3 1 (l.map fun x=>[AV.int x])]) (fun v=>AV.is v):=by
  refine C8 func124 rfl ntmps124 rfl ?_;refine zq149 ?_;refine S3 rfl rfl rfl rfl D3 E9 ?_;intro v3;refine R1 ?_;refine I0 (by':=8) 0 rfl rfl rfl rfl D3 type3 rfl rfl rfl rfl rfl rfl zA zA rfl qz1 ?_;intro v5_1;refine R3 ?_;exact I9 [0] v5_1 (trivial) rfl B7 (O2 rfl (A5 rfl W5))
attribute [local irreducible] Y8 Int.tmod Int.tdiv IntKind.wrap T3
def D8.ocs (r:D8)(y:Value):List AV:=[AV.bool r.Up,AV.is y,AV.int r.Sure]
def D8.ow (r:D8)(y:Value):List Go.AV.Own:=[.arr y 179 8 (r.Log.map F4.cs)]
theorem D8.lcM {own:List Go.AV.Own}(r:D8)(y:Value)(h:∀o∈D8.ow r y,o∈own):AJ1 own (D8.ocs r y) r.cs:=D7 H9 (D7 (K2 (h _ (C3 (i:=0) rfl)) G3) AP0)
theorem DT0 (g:C1)(hs:g.size≤1048576):M0 125 [AV.agg g.cs] [] (fun x:Value×List Value=>x.2.length=g.Reps.length) (fun x=> .arr x.1 70 3 (L4 D8.ocs g.Reps x.2)::nin D8.ow g.Reps x.2) (fun x=>AV.agg [AV.is x.1,AV.int g.Term,AV.int g.Lead]):=by
 have hrs:D2 D8.size g.Reps≤1048576:=hs;have hll:g.Reps.length≤1048576:=L7 M7 hrs;refine C8 func125 rfl ntmps125 rfl ?_;refine R3 ?_;intro b1;refine R1 ?_;intro b2;refine R3 ?_;refine S3 rfl rfl rfl rfl D4 F9 ?_;intro v5;refine R4 ?_;refine O7 0 rfl fun one_v5=> ?_;refine zq133 ?_;intro b3;refine R8 ?_;refine zL [0,1,1,0] ?_;refine W1 [(1,_),(2,_),(3,_)] [] (fun (i:Nat) (v:Value) (xs:List Value)=>i≤g.Reps.length∧xs.length=i) (fun i v xs=>[.box b3 38 [AV.is v,AV.int g.Term,AV.int g.Lead],.box b2 38 (List.map m7 (Value.agg #[E6,Value.int IntKind.i64 0,Value.int IntKind.i64 0]).cells.toList),.box b1 38 g.cs,.arr v 70 3 (L4 D8.ocs (g.Reps.take i) xs)]++(nin D8.ow (g.Reps.take i) xs)) (fun i v xs=>[(4,AV.int i)]) (fun i v xs=>g.Reps.length-i) (0) (v5) ([]) ?_ (I1 B7 A6) ?_
 ·exact zq4
 intro i v xs hinv;refine H3 (T2 _) ?_;refine zK ?_ ?_
 ·intro h15 k15;have hlt:i<g.Reps.length:=Ax2;obtain⟨x,hx⟩:=B2 hlt;have hsx:D2 F4.size x.Log≤1048576:=L7 (W4 (f:=D8.size) hx) hrs;refine R3 ?_;refine P1 _ [(0,false),(1,false),(2,false),(3,false),(4,false),(5,false),(6,false),(7,false),(8,false),(9,false),(10,false),(11,false),(12,false),(13,false),(15,false),(16,false),(17,false),(18,false),(19,false),(20,false),(14,true),(21,false),(22,false),(23,true)] E3 E3 rfl (U8 3) ?_;refine zq219 ?_;refine zq219 ?_;refine zq219 ?_;refine R2 ?_;refine U2 rfl rfl rfl (J2 4 (fun _=>rfl) (AC6 4 (S9 [] rfl call195 rfl (Br4 x.Log hsx) G6 rfl))) (fun a _=>qz3) ?_;intro x32 ok32;have one_x32:=ok32.2
  replace ok32:=ok32.1
  refine N0 rfl rfl rfl (fun ext=>Q7 (places:=#[(0,1),(1,1),(2,1)]) rfl q6 zeroValue70 (fun w=>by kernel_rfl) rfl (B6 zA (Ai9 _) (B6 zA (F6 one_x32) (B6 zA (X2 _ _) N6))) rfl) ?_;refine R1 ?_;refine U2 rfl rfl rfl (N3 (by':=40) 3 rfl D4 type70 rfl rfl rfl rfl rfl rfl zA zA rfl BK6) (fun a _=>qz3) ?_;intro v41_1 _;refine R2 ?_;refine O7 3 rfl fun one_v41_1=> ?_;refine N2 0 rfl rfl rfl zA zA (F6 one_v41_1) rfl AR1 rfl ?_;refine R1 ?_;refine zL [0,0,0,0,0] ?_;refine AWP.le (U1 4 (t:=nin D8.ow (g.Reps.take (i+1)) (xs++[x32])) (AV8 (ow:=D8.ow) (x:=x32) hx hinv.2)) ?_;refine R5 ?_;refine Q8 i v xs (i+1) (v41_1) (xs++[x32]) ?_ ?_ (Le.trans (B4 [0,0,0,0] rfl) (I1 (Eq.trans qz168 (T2 _).symm) A6))
  ·exact⟨by omega,by rw[I2,hinv.2];rfl⟩
  omega
 intro h15 k15;have hge:i=g.Reps.length:=(by have h9:g.Reps.length≤i:=Ax2;omega);have hxs:=hinv.2.trans hge;rw[show g.Reps.take i=g.Reps from S7 qz7];exact zq203
theorem Dd0 {own:List Go.AV.Own}{l:List D8}{xs:List Value}{k:Nat}(hm:∀o∈nin D8.ow (l.eraseIdx k) (xs.eraseIdx k),o∈own){j:Nat}{p:D8}{x:Value}(hp:l[j]? =some p)(hx:xs[j]? =some x)(hj:j≠k):∀o∈D8.ow p x,o∈own:=fun o ho=>by
  by_cases h:j<k
  ·exact hm o (Bv4 (i:=j) (by rw[List.getElem?_eraseIdx,D9 h];exact hp) (by rw[List.getElem?_eraseIdx,D9 h];exact hx) o ho)
  ·exact hm o (Bv4 (i:=j-1) (by rw[List.getElem?_eraseIdx,D0 qz7,show j-1+1=j by omega];exact hp) (by rw[List.getElem?_eraseIdx,D0 qz7,show j-1+1=j by omega];exact hx) o ho)
theorem Dd1 {own:List Go.AV.Own} {l:List D8} {xs:List Value} {k:Nat} {p p':D8} {y:Value} (hlen:xs.length=l.length) (hp:l[k]? =some p) (hy:xs[k]? =some y) (hm:∀o∈nin D8.ow (l.eraseIdx k) (xs.eraseIdx k),o∈own):BO8 own (L4 D8.ocs (l.take k) (xs.take k)++p'.cs::L4 D8.ocs (l.drop (k+1)) (xs.drop (k+1))) ((l.set k p').map D8.cs):=by
  have hk:=(G1.1 hp).1;have ht:=AC9 (ocs:=D8.ocs) hp hy;refine⟨by rw[BN2 hp hy hlen,A8,a9],fun j a b ha hb=> ?_⟩;rw[a8]at hb;by_cases hj:j=k
  · subst hj
    rw[Ac3 hk]at hb;rw[Aq1 qz7,ht,Nat.sub_self,BG0]at ha;injection ha with ha;injection hb with hb;subst ha;subst hb
    exact AP0
  · rw[Ak5 (fun e=>hj e.symm)]at hb
    cases hq:l[j]? with
    |none=>rw[hq]at hb;cases hb
    | some q=>
      rw[hq]at hb;injection hb with hb
      have hjl:=(G1.1 hq).1;obtain⟨x,hx⟩:∃x,xs[j]? =some x:=⟨_,Q5 qz7⟩;have ha2:(L4 D8.ocs l xs)[j]? =some a:=by
        rw[AP6 hp hy];by_cases h:j<k
        ·rw[BA5 qz7]at ha⊢;exact ha
        · rw[Aq1 qz7]at ha⊢
          obtain⟨m,hm9⟩:∃m,j-(L4 D8.ocs (l.take k) (xs.take k)).length=m+1:=⟨j-k-1,by omega⟩;rw[hm9]at ha⊢;rw[BV2]at ha⊢;exact ha
      rw[n9 hq hx]at ha2;injection ha2 with ha2
      subst ha2;subst hb;exact D8.lcM q x (Dd0 hm hq hx hj)
theorem DF1 (R:List D8)(tm:Int)(k:Nat)(L:D8)(r:N5)(hL:R[k]? =some L)(hs:(C1.mk R tm k).size≤1000000)(hrs:r.size≤1000)(hg:P0 ⟨R,tm,k⟩=true)(hgr:T8 r=true)(hlen:L.Log.length<60):M0 191 [AV.agg (C1.mk R tm k).cs,AV.agg r.cs] [] (fun x:Value×List Value=>x.2.length=R.length) (fun x=> .arr x.1 70 3 (L4 D8.ocs (R.take k) (x.2.take k)++(D8.mk L.Up (L.Log++[⟨tm,r⟩]) L.Sure).cs::L4 D8.ocs (R.drop (k+1)) (x.2.drop (k+1)))::nin D8.ow (R.eraseIdx k) (x.2.eraseIdx k)) (fun x=>AV.tup [AV.agg [AV.is x.1,AV.int tm,AV.int (k:Int)],AV.bool true]):=by
 have hrsz:D2 D8.size R≤1000000:=hs;have hkl:=(G1.1 hL).1;have hlsz:D2 F4.size L.Log≤1000000:=L7 (W4 (f:=D8.size) hL) hrsz;have hnew:D2 F4.size (L.Log++[⟨tm,r⟩])≤1048576:=by
  have e:D2 F4.size (L.Log++[⟨tm,r⟩])=D2 F4.size L.Log+(1+r.size):=by
   unfold D2;rw[Y3,List.sum_append];simp[F4.size];omega
  omega
 have hld:(C1.mk R tm (k:Int)).Lead=(k:Int):=rfl;have hrl:(C1.mk R tm (k:Int)).Reps.length=R.length:=rfl;have hcall:D6 195 [AV.list 8 (L.Log.map F4.cs++[F4.cs (F4.mk tm r)])] (AV.list 8 ((L.Log++[F4.mk tm r]).map F4.cs)):=by
  have h:=BL3 (L.Log++[⟨tm,r⟩]) hnew;rw[Y3]at h⊢;exact h
 refine C8 func191 rfl ntmps191 rfl ?_;refine R3 ?_;intro b2;refine R1 ?_;intro b3;refine R1 ?_;intro b4;refine zq150 ?_;refine S0 rfl (fun hc=>C2 rfl D4 F9 (A7 rfl hc) (A7 rfl hc) hL qz6) ?_;refine zC ?_ ?_
 ·intro h30;exfalso;rw[hg,←Ay4,hgr]at h30;simp at h30;omega
 intro h30;refine R4 ?_;refine Av9 [] 3 1 ([]) ([]) (fun zz=>nin D8.ow R zz.2) rfl rfl rfl rfl call125 rfl rfl (show List.Perm ([]) (([])++([]))from List.Perm.refl _) (DT0 ⟨R,tm,k⟩ qz7) G6 (fun a=>O4) ?_;intro x33 ok33;refine R1 ?_;intro b6;refine R3 ?_;have hln:x33.2.length=R.length:=ok33;obtain⟨y,hy⟩:=B2 (show k<x33.2.length by omega);rw[AP6 hL hy];refine AWP.le (U1 5 (t:=([Go.AV.Own.arr y 179 8 (L.Log.map F4.cs)])++(nin D8.ow (R.eraseIdx k) (x33.2.eraseIdx k))) (Ad4 (ow:=D8.ow) hL hy)) ?_;refine P1 _ [(0,false),(1,false),(2,false),(3,false),(4,false),(5,false),(6,false),(7,false),(8,false),(9,false),(10,false),(11,false),(12,false),(13,false),(14,false),(15,false),(16,true),(17,false)] E3 E3 rfl (U8 5) ?_;refine R8 ?_;refine N0 rfl rfl rfl (fun ext=>I4 1 rfl D4 F9 zA rfl zA qz7 (by rw[BN2 hL hy hln];omega)) ?_;refine zq136 ?_;refine R5 ?_;refine zq120 ?_;intro v50_1 _;refine N0 rfl rfl rfl (fun ext=>zG rfl call195 (hcall) G6) ?_;refine R1 ?_;refine A1 rfl (I4 1 rfl D4 F9 zA rfl zA qz7 (by rw[BN2 hL hy hln];omega)) ?_;refine zq177 ?_;exact H8 [1] 4 (nin D8.ow (R.eraseIdx k) (x33.2.eraseIdx k)) (x33.1,x33.2) (ok33) rfl B7 (j6 rfl E5 (G0 (F5 (ys:=_) 2 rfl rfl K6 C6 rfl) V6))
theorem DF2 (g:C1)(r:N5)(hs:g.size≤1048576)(hrs:r.size≤1000)(hno:(AE2 g r).2=false):D6 191 [AV.agg g.cs,AV.agg r.cs] (AV.tup [AV.agg AH4.cs,AV.bool false]):=by
 refine B0 func191 rfl ntmps191 rfl ?_;refine R3 ?_;intro b2;refine R1 ?_;intro b3;refine R1 ?_;intro b4;refine zq150 ?_;refine S0 rfl (fun hc=>C2 rfl D4 F9 (A7 rfl hc) (A7 rfl hc) (Z3 (put_in hc)) (by have h9:=(put_in hc).1;omega)) ?_;refine zC ?_ ?_
 ·intro h30;exact zq222
 intro h30;exact(DS7 hno h30).elim
theorem Cv0 {p:Prop}(h:p:=by
  by_cases h:(AS2 g&&T8 r)=true∧(M3 g g.Lead).Log.length<60
  · have he:AE2 g r=(AW7 g g.Lead ⟨(M3 g g.Lead).Up,(M3 g g.Lead).Log++[⟨g.Term,r⟩],(M3 g g.Lead).Sure⟩,true):=D9 h
    have hh:=h.1;rw[F0]at hh;obtain⟨gg,l0,l1,hup⟩:=Ab8.1 hh.1;have hL:=Z3 (g:=g) (r:=g.Lead) ⟨l0,l1⟩;rw[he];obtain⟨R,tm,ld⟩:=g;obtain⟨k,hk⟩:∃k:Nat,ld=(k:Int):=⟨ld.toNat,(Int.toNat_of_nonneg l0).symm⟩;subst hk;refine J5 (tw12x0 R tm k (M3 ⟨R,tm,k⟩ k) r hL hs hrs (o9.2 gg) hh.2 h.2) fun x hx=> ?_;have hkl:=(G1.1 hL).1;have hxl:x.2.length=R.length:=hx;obtain⟨y,hy⟩:∃y,x.2[k]? =some y:=⟨_,Q5 (show k<x.2.length by rw[hxl];exact hkl)⟩;exact AQ7 (D7 (AO7 (D7 (K2 n4 (Dd1 hxl hL hy fun o ho=>U5 _ ho)) AP0)) (D7 H9 Z6))
  · have he:AE2 g r=(AH4,false):=D0 h
    rw[he];exact tw12x1 g r qz7 hrs (by rw[he])):p:=h
namespace tw12n0
def tw12x0 :=@DF1
def tw12x1 :=@DF2
end tw12n0
open tw12n0 in
theorem Ch3 (g:C1)(r:N5)(hs:g.size≤1000000)(hrs:r.size≤1000):D6 191 [AV.agg g.cs,AV.agg r.cs] (AV.tup [AV.agg (AE2 g r).1.cs,AV.bool (AE2 g r).2]):=Cv0
end Go.PQ
namespace Go.PQ
open Go.Proofs Go.Proofs.Tryz
open Go Go.AV Go.M
attribute [local irreducible] OpW OpA OpS AWP J6 L6 K3 OpE K4 I5 L0 Le Ev G4 L9
theorem Dd2 (l:List Int)(n:Int):D6 424 [ints l,AV.int n] (AV.bool (l.any fun y=>n==y)):=by
 refine B0 func424 rfl ntmps424 rfl ?_;refine Y0 (t:=0) rfl fun hl=> ?_;try simp only[A8]at hl
 refine R12 ?_;refine E8 [(1,_),(7,_),(8,_)] _ (fun (i:Nat)=>i≤l.length∧(l.any fun y=>n==y)=((l.drop i).any fun y=>n==y)) (fun i=>[]) (fun i=>[(9,AV.int i)]) (fun i=>l.length-i) (0) ?_ (G2 A6) ?_
 ·exact zq4
 intro i hinv;refine zK ?_ ?_
 ·intro h10 k10;have hlt:i<l.length:=by omega
  obtain⟨x,hx⟩:=B2 hlt;refine zq205 ?_;refine zC ?_ ?_
  ·intro h15;have k15:=J9 h15;(try simp only[A8]at k15);refine R5 ?_;exact D1 rfl (A5 rfl qz198)
  intro h15;have k15:=J4 h15;(try simp only[A8]at k15);refine R5 ?_;refine F1 i (i+1) ?_ ?_ (G2 A6)
  ·exact⟨by omega,by rw[hinv.2,Cl8 hx,Ak6,show (n==x)=false from by simpa using Ne.symm k15];rfl⟩
  omega
 intro h10 k10;have hge:l.length≤i:=by omega
 refine R6 ?_;exact D1 rfl (A5 rfl qz198)
theorem Cv1 (g h:H7):D6 202 [AV.agg h.cs,AV.eptr g.cs] (AV.bool (h.Key==g.Key)):=by
  refine B0 func202 rfl ntmps202 rfl ?_;refine R3 ?_;intro b2;refine R12 ?_;exact zq16
theorem Bz4 (l:List H7)(hs:D2 H7.size l≤4194304):D6 136 [AV.list 3 (l.map H7.cs)] (AV.bool (AN2 l)):=by
 have hl:=M7 (f:=H7.size) (l:=l);refine B0 func136 rfl ntmps136 rfl ?_;refine R12 ?_;refine E8 [(0,_),(5,_),(6,_)] _ (fun (i:Nat)=>i≤l.length∧AX1 [] l=AX1 (l.take i) (l.drop i)) (fun i=>[]) (fun i=>[(7,AV.int i)]) (fun i=>l.length-i) (0) ?_ (I1 B7 A6) ?_
 ·exact zq4
 intro i hinv;refine zK ?_ ?_
 ·intro h8 k8;have hlt:i<l.length:=by (simpa using h8)
  obtain⟨x,hx⟩:=B2 hlt;have hxs:=Cu2 hx;have hgs:=Cc4 hx;refine R6 ?_;refine zq91 ?_;intro b4;refine R7 ?_;refine zF rfl call172 (Az2 _ qz7) (A2 (A0 rfl) A9) ?_;refine R7 ?_;refine S0 rfl (fun hc=>zG rfl call200 (BL0 _ _ qz7) (A2 (A7 rfl hc) (A2 (A7 rfl hc) A9))) ?_;refine R5 ?_;refine S0 rfl (fun hc=>AG5 rfl N1 W7 (A7 rfl hc) (A7 rfl hc) qz6 qz6) ?_;refine S0 rfl (fun hc=>Ag8 rfl rfl G6) ?_;refine S0 rfl (fun hc=>n2 rfl call201 rfl (Bi0 (l.take i) (fun _=>True) (fun h=>h.Key==x.Key) (fun _ _=>trivial)) (T9 _) (N7 (evb (A7 rfl hc)) (N7 (AC7 (AV7 0 (A7 rfl hc) rfl) (AL4 call202 (fun g (_:True)=>Cv1 _ g))) o8))) ?_;refine zC ?_ ?_
  ·intro h31;have hn:(BB5 x&& !((l.take i).any fun h=>h.Key==x.Key))=false:=qz155;have he:AN2 l=false:=(by unfold AN2;rw[hinv.2,hgs,hn];rfl);rw[he];refine R5 ?_;exact D1 rfl (A5 rfl qz91)
  intro h31;have hy:(BB5 x&& !((l.take i).any fun h=>h.Key==x.Key))=true:=qz155;refine R5 ?_;refine F1 i (i+1) ?_ ?_ (Le.trans (B4 [0] rfl) (D5 1 B7 A6))
  ·exact⟨by omega,by rw[hinv.2,hgs,hy,Bool.true_and]⟩
  omega
 intro h8 k8;have hge:l.length≤i:=by (simpa using h8)
 have hfin:=hinv.2;rw[Cu1 hge]at hfin;refine R9 ?_;exact D1 rfl (A5 rfl qz91)
theorem Bz5 (l:List H7)(hs:D2 H7.size l≤4194304):D6 158 [AV.list 3 (l.map H7.cs)] (AV.bool (AN2 l)):=by
 have hl:=M7 (f:=H7.size) (l:=l);refine B0 func158 rfl ntmps158 rfl ?_;refine R12 ?_;refine E8 [(0,_),(7,_),(8,_)] _ (fun (i:Nat)=>i≤l.length∧AX1 [] l=AX1 (l.take i) (l.drop i)) (fun i=>[]) (fun i=>[(9,AV.int i)]) (fun i=>l.length-i) (0) ?_ (I1 B7 A6) ?_
 ·exact zq4
 intro i hinv;refine zK ?_ ?_
 ·intro h10 k10;have hlt:i<l.length:=by (simpa using h10)
  obtain⟨x,hx⟩:=B2 hlt;have hxs:=Cu2 hx;have hgs:=Cc4 hx;have hi0:=hinv.2;refine R6 ?_;refine zq91 ?_;intro b4;refine R8 ?_;refine zq135 ?_;refine R4 ?_;refine S0 rfl (fun hc=>zG rfl call188 (BN8 _ qz7) (A2 (A7 rfl hc) A9)) ?_;refine R9 ?_;refine AF2 rfl rfl (Y9 rfl rfl rfl) (fun hc=>Cn4 rfl (A7 rfl hc) (O9 (l:=[]) rfl)) ?_;refine zC ?_ ?_
  ·intro h33;have hn:BB5 x=false:=qz173;have he:AN2 l=false:=(by unfold AN2;rw[hinv.2,hgs,hn];rfl);rw[he];refine R5 ?_;exact D1 rfl (A5 rfl qz91)
  intro h33;have hy:BB5 x=true:=qz173;refine R5 ?_;refine A1 rfl (AG5 rfl N1 W7 zA zA qz1 qz1) ?_;refine R4 ?_;refine E8 [(0,_),(3,_),(4,_),(7,_),(8,_),(9,_),(10,_),(11,_),(12,_),(13,_),(14,_),(15,_),(16,_),(17,_),(18,_),(23,_),(24,_),(33,_),(34,_),(35,_),(36,_),(37,_)] _ (fun (j:Nat)=>j≤(l.take i).length∧((l.take i).any fun h=>h.Key==x.Key)=(((l.take i).drop j).any fun h=>h.Key==x.Key)) (fun j=>[]) (fun j=>[(38,AV.int j)]) (fun j=>(l.take i).length-j) (0) ?_ (I1 B7 A6) ?_
  ·exact zq4
  intro j hinv;refine zK ?_ ?_
  ·intro h39 k39;have hlt1:j<(l.take i).length:=by (simpa using h39)
   obtain⟨z,hz⟩:=B2 hlt1;refine R5 ?_;refine A1 rfl (C2 rfl N1 W7 zA zA hz qz1) ?_;refine R2 ?_;intro b6;refine zC ?_ ?_
   ·intro h46;have he:AN2 l=false:=(by unfold AN2;rw[hi0,hgs,hinv.2,Cc5 hz,kcomm z.Key,h46,Bool.true_or,Bool.not_true,Bool.and_false];rfl);rw[he];refine R5 ?_;exact D1 rfl (A5 rfl qz91)
   intro h46;refine R5 ?_;refine F1 j (j+1) ?_ ?_ (Le.trans (B4 [0] rfl) (D5 1 B7 A6))
   ·exact⟨by omega,by rw[hinv.2,Cc5 hz,kcomm z.Key,h46];rfl⟩
   omega
  intro h39 k39;have hge1:(l.take i).length≤j:=by (simpa using h39)
  have hj3:((l.take i).any fun h=>h.Key==x.Key)=false:=(by rw[hinv.2,r9 hge1];rfl);refine R5 ?_;refine F1 i (i+1) ?_ ?_ (Le.trans (B4 [0] rfl) (D5 1 B7 A6))
  ·exact⟨by omega,by rw[hi0,hgs,hy,hj3];rfl⟩
  omega
 intro h10 k10;have hge:l.length≤i:=by (simpa using h10)
 have hfin:=hinv.2;rw[Cu1 hge]at hfin;refine R9 ?_;exact D1 rfl (A5 rfl qz91)
end Go.PQ