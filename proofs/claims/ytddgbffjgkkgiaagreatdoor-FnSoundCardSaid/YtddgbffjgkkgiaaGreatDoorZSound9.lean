/- Texts of the claim, part 9. -/
import Derived.Test.YtddgbffjgkkgiaaGreatDoorZSound8
set_option linter.defProp false
set_option linter.unusedVariables false
set_option linter.unusedSimpArgs false
set_option maxRecDepth 100000
set_option maxHeartbeats 4000000
namespace Go.M
open Go.AV
theorem Bl9 {P:Str→Prop} {got:List H7}:∀{l:List TOp} {buf:List B1},(∀o∈l,P o.Key)→(∀w∈buf,P w.Key)→∀w∈(m2 got buf l).2.2,P w.Key
  |[],buf,_,hb=>hb
  | o ::l,buf,ho,hb=>by
    unfold m2;split
    ·intro w hw;cases hw
    · split
      ·intro w hw;cases hw
      · refine Bl9 (fun x hx=>ho x (U5 _ hx)) fun w hw=> ?_
        have hm:w.Key∈O8 (V9 o (C9 buf got o.Key).1 (C9 buf got o.Key).2.1 buf):=n6.2 ⟨w,hw,rfl⟩;rcases DQ4 hm with e|e
        ·rw[e];exact ho o n4
        · obtain⟨z,hz,e⟩:=n6.1 e
          rw[←e];exact hb z hz
theorem DV1 {l:List TOp}{got:List H7}(h:∀o∈l,o.Key∈AI5):∀w∈(P2 l got).2.2,w.Key∈AI5:=Bl9 h fun w hw=>by cases hw
theorem Ce2 :∀{got:List H7} {a:List Str},D2 (fun s:Str=>s.length) (got.foldl (fun a g=>AE9 a g.Key) a)≤D2 (fun s:Str=>s.length) a+D2 H7.size got
  |[],a=>by simp[D2]
  | g::got,a=>by
    rw[List.foldl_cons,i4];have h1:=Ce2 (got:=got) (a:=AE9 a g.Key);have h2:=Cb9 g.Key a;have h3:g.Key.length≤g.size:=by unfold H7.size;omega
    omega
theorem CF7.sizes {n:Nat}{c:Int}{t:B5}(h:CF7 n c t):D2 (fun s:Str=>s.length) (i9 t.Got)+D2 B1.size (P2 t.Ops t.Got).2.2≤1000:=by
  have h1:=Ce2 (got:=t.Got) (a:=[]);have h2:=AE5 (f:=H7.size) (c:=64) (l:=t.Got) h.got.2;have h3:t.Got.length*(64+1)≤8*65:=AD0 _ h.got.1;have hr:=ran (got:=t.Got) (n:=36) E5 (AT6 h.ops.1);have h4:=AE5 (f:=B1.size) (c:=36) (l:=(P2 t.Ops t.Got).2.2) hr.size;have h5:t.Ops.length≤8:=by have h9:=h.ops.1;unfold n8 at h9;rw[F0,H6]at h9;have:=h9.1;omega
  have h6:(P2 t.Ops t.Got).2.2.length*(36+1)≤8*37:=AD0 _ (by have:=hr.len;omega);have h7:D2 (fun s:Str=>s.length) (i9 t.Got)≤D2 H7.size t.Got:=by unfold i9;have h8:D2 (fun s:Str=>s.length) ([]:List Str)=0:=rfl;omega
  omega
theorem CE6 {w:C7}(hw:WI w){p:Int}(h:0≤p∧p≤w.Cuts.length):∃gi,w.Groups[p.toNat]? =some gi:=B2 (by have:=hw.cuts.1;omega)
def CQ0 (t:B5)(c:Int):B5:={t with End:=c}
theorem wf_end {w:C7}(hw:WI w){i:Nat}{t:B5}(ht:w.Txns[i]? =some t)(hq:0≤t.Begin∧t.Begin<w.Count):WF w (AO3 w i (CQ0 t w.Count)):=by
  have h:=hw.txns.2 t (C3 ht);have h2:=BJ4 hw (i:=i) (t:=CQ0 t w.Count) ⟨h.terms,h.ops,h.got,h.span.1,.inr ⟨hq.1,hq.2,Int.le_refl _⟩⟩;exact zq164
theorem DV2 {s:E1}(g:GS s)(n:Int):0≤(AN4 s.Held n).1.Lead∧(AN4 s.Held n).1.Lead≤3:=by
  unfold AN4
  cases hf:AE1 s.Held n with
  |none=>exact⟨Int.le_refl 0,by decide⟩
  | some h=>
    have h1:=(g.good h (Ap3 hf).1).1;unfold T8 BI0 AW5 at h1;rw[D9 rfl]at h1;simp only[F0]at h1;have h2:=h1.1.1.1.1.1.1.2;unfold within at h2
    rw[F0,H6,H6]at h2;exact h2
def CQ1 (t:B5)(c:Int):B5:={t with Begin:=c}
theorem wf_beg {w:C7}(hw:WI w){i:Nat}{t:B5}(ht:w.Txns[i]? =some t)(hb:t.Begin<0):WF w (AO3 w i (CQ1 t w.Count)):=by
  have h:=hw.txns.2 t (C3 ht);have hs:=h.span;have h2:=BJ4 hw (i:=i) (t:=CQ1 t w.Count) ⟨h.terms,h.ops,h.got,Int.le_refl _,.inl (by show t.End= -1;omega)⟩;exact zq164
theorem step_ask {n:Nat}{c:Int}{t:B5}(h:CF7 n c t)(e:(P2 t.Ops t.Got).1=1):(P2 t.Ops t.Got).2.1.length≤12:=by
  have hr:=ran (got:=t.Got) (n:=36) E5 (AT6 h.ops.1);obtain⟨⟨o,ho,ek⟩,_⟩:=hr.ask e;have:=(AL9 (h.ops.2 o ho)).2;rw[←ek];omega
theorem lead_any {g:C1}(h:GG g):GS (q7 g)∧GS (Z8 g):=by
  unfold q7 Z8;by_cases e:∃r,g.Reps[g.Lead.toNat]? =some r
  · obtain⟨r,hr⟩:=e
    have hm:=h.reps r (C3 hr);rw[repAt_of hr];exact⟨Ay9 hm _,Ay9 hm _⟩
  · have he:M3 g g.Lead=⟨false,[],0⟩:=by
      unfold M3
      cases hc:g.Reps[g.Lead.toNat]? with
      |none=>rfl
      |some r=>exact absurd ⟨r,hc⟩ e
    rw[he];exact⟨BQ2,BQ2⟩
def BQ7 (l:C5)(t c:Int):C5:={l with Time:=t,Begin:=c}
def Ar0 (l:C5)(c:Int):C5:={l with End:=c}
def Af2 (l:C5)(g:H7):C5:={l with Got:=l.Got++[g]}
theorem DV3 {w:C7}(hw:WI w){l:C5}(h:LkOk w.Groups.length w.Count l):∃c,w.Clocks[l.Node.toNat]? =some c∧AA2 c=true∧M.o0 w.Now=true∧ -1000000≤(AB3 c w.Now).High∧(AB3 c w.Now).High≤1000000:=by
  have hn:=h.node;obtain⟨c,hc⟩:=B2 (show l.Node.toNat<w.Clocks.length by rw[hw.clocks.1];omega);have h9:=hw.clocks.2 c (C3 hc);have h8:=hw.now;refine⟨c,hc,?_,?_,?_,?_⟩
  ·unfold AA2 within;rw[F0,H6,H6];exact h9
  ·unfold M.o0 within;rw[F0,H6,H6];exact h8
  ·show -1000000≤w.Now+c.Off+5;omega
  ·show w.Now+c.Off+5≤1000000;omega
theorem wv_begL {w:C7}(hw:WI w){i:Nat}{l:C5}(hl:w.Looks[i]? =some l)(hb:l.Begin<0){t:Int}(ht:0≤t∧t≤1000000):WI (Aa7 w i (BQ7 l t w.Count))∧WS w (Aa7 w i (BQ7 l t w.Count)):=by
  have h:=hw.looks.2 l (C3 hl);have hs:=h.span;exact CS8 hw (i:=i) (t:=BQ7 l t w.Count) ⟨h.node,h.keys,h.got,⟨Int.le_refl _,.inl (by show l.End= -1;omega)⟩,ht⟩
theorem wv_endL {w:C7}(hw:WI w){i:Nat}{l:C5}(hl:w.Looks[i]? =some l)(hb:0≤l.Begin∧l.Begin<w.Count):WI (Aa7 w i (Ar0 l w.Count))∧WS w (Aa7 w i (Ar0 l w.Count)):=by
  have h:=hw.looks.2 l (C3 hl);exact CS8 hw (i:=i) (t:=Ar0 l w.Count) ⟨h.node,h.keys,h.got,⟨h.span.1,.inr ⟨hb.1,hb.2,Int.le_refl _⟩⟩,h.time⟩
theorem DM4 {w:C7}(hw:WI w){i:Nat}{l:C5}(hl:w.Looks[i]? =some l){g:H7}(hlt:l.Got.length<l.Keys.length)(hg:g.size≤64):WI (Aa7 w i (Af2 l g))∧WS w (Aa7 w i (Af2 l g)):=by
  have h:=hw.looks.2 l (C3 hl);refine CS8 hw (i:=i) (t:=Af2 l g) ⟨h.node,h.keys,⟨?_,fun x hx=> ?_⟩,h.span,h.time⟩
  ·show (l.Got++[g]).length≤l.Keys.length;rw[I2];simp;omega
  · rcases y6.1 (show x∈l.Got++[g]from hx)with hx|hx
    ·exact h.got.2 x hx
    ·rw[i6.1 hx];exact hg
def Bx2 (t:B5):B5:={t with Stopped:=true}
theorem wf_stop {w:C7}(hw:WI w){i:Nat}{t:B5}(ht:w.Txns[i]? =some t):WF w (AO3 w i (Bx2 t)):=by
  have h:=hw.txns.2 t (C3 ht);have h2:=BJ4 hw (i:=i) (t:=Bx2 t) ⟨h.terms,h.ops,h.got,h.span⟩;exact zq164
def AB4 (a:r3):Prop:=(-1000≤a.At∧a.At≤1000)∧ -1000≤a.By∧a.By≤1000
theorem DV4 (b:Bool):¬(b&&false)=true:=by cases b<;>decide
def DoOk (w v:C7)(T':List (Value×Value))(L':List Value):Prop:=WI v∧(v.Count=w.Count∧w.Count<1000000)∧T'.length=v.Txns.length∧L'.length=v.Looks.length
end Go.M
namespace Go.PQ
open Go.Proofs Go.Proofs.Tryz
open Go Go.AV Go.M
attribute [local irreducible] OpW OpA OpS AWP J6 L6 K3 OpE K4 I5 L0 Le Ev G4 L9 Y8 Int.tmod Int.tdiv IntKind.wrap T3
theorem DV5 (b:Nat)(w:C7)(X:WX)(T:List (Value×Value))(L:List Value)(t:Int)(hw:WI w)(hq:∀tx,w.Txns[(t-1).toNat]? =some tx→0≤tx.Begin∧tx.Begin<w.Count)(hT:T.length=w.Txns.length)(ht:1≤t∧(t-1).toNat<w.Txns.length):M0 393 [AV.ptr b 0,AV.int t] (WB b w X T L) (fun v:C7×Bool=>WI v.1∧WS w v.1) (fun v=>WB b v.1 X T L) (fun v=>AV.bool v.2):=by
 have htn:=hw.txns.1;obtain⟨tx,htx⟩:=B2 ht.2;obtain⟨y,hy⟩:=B2 (show (t-1).toNat<T.length by omega);have htk:=hw.txns.2 tx (C3 htx);have hz:=htk.sizes;have hk:=DV1 (got:=tx.Got) htk.ops.2;have hpl:(U7 w.Cuts tx).length≤1000:=by
  have h1:=Az7 w.Cuts (AI4 (i9 tx.Got++O8 (P2 tx.Ops tx.Got).2.2));have h2:=Af9 (i9 tx.Got++O8 (P2 tx.Ops tx.Got).2.2);have h3:=BA0 (f:=fun s:Str=>s.length) (l:=i9 tx.Got);have h4:=BA0 (f:=B1.size) (l:=(P2 tx.Ops tx.Got).2.2);rw[I2,show (O8 (P2 tx.Ops tx.Got).2.2).length=(P2 tx.Ops tx.Got).2.2.length from A8 ..]at h2;unfold U7;omega
 refine C8 func393 rfl ntmps393 rfl ?_;refine R5 ?_;refine zq12 ?_;refine P1 _ [(0,false),(1,false),(2,false),(3,false),(4,false),(5,false),(6,false),(7,false),(8,false),(9,false),(10,false),(11,false),(12,false),(13,false),(14,true),(15,false),(16,false),(17,false),(18,false),(19,false),(20,false),(21,false),(22,false)] E3 E3 rfl (U8 7) ?_;refine R12 ?_;refine N0 rfl rfl rfl (fun ext=>I4 5 rfl M4 U3 zA rfl zA qz7 Ax4) ?_;refine zq125 ?_;intro x31 ok31;refine R13 ?_;refine zq119 ?_;refine H3 Ac9 ?_;refine zC ?_ ?_
 ·intro h37;refine R5 ?_;exact H8 [0,0,0,0,0,0,0] 0 (nwZ w T L) ((w,false)) (qz69) rfl B7 Q4
 intro h37;have hso:AK5 tx=true:=(by simpa using h37);obtain⟨p0,hp0⟩:=BW8 (cuts:=w.Cuts) hso;have hpr:=BQ6 (C3 hp0);obtain⟨g0,hx0⟩:=CE6 hw hpr;refine zq84 ?_;intro x44 ok44;refine R7 ?_;refine H3 Ac9 ?_;refine zC ?_ ?_
 ·intro h47;refine R6 ?_;exact H8 [0,0,0,0,0,0,0] 0 (nwZ x44.1 T L) ((x44.1,x44.2.1)) (qz69) rfl B7 Q4
 intro h47;refine R3 ?_;refine n1 3 1 rfl rfl rfl rfl L2 ?_;intro v11;refine R9 ?_;refine zL [0] ?_;refine W1 [(0,_),(1,_),(5,_),(6,_),(7,_),(49,_),(50,_)] _ (fun (i:Nat) (tm:List Int) (u:Value)=>i≤(U7 w.Cuts tx).length∧tm.length=i) (fun i tm u=>[.arr u 3 1 (tm.map fun n=>[AV.int n])]) (fun i tm u=>[(11,AV.is u),(51,AV.int i)]) (fun i tm u=>(U7 w.Cuts tx).length-i) (0) ([]) (v11) ?_ (I1 B7 A6) ?_
 ·exact zq4
 intro i tm u hinv;refine zK ?_ ?_
 ·intro h52 k52;have hlt:i<(U7 w.Cuts tx).length:=(by simpa using h52);obtain⟨p,hp⟩:=B2 hlt;have hpi:=BQ6 (C3 hp);obtain⟨gp,hxp⟩:=CE6 ok44.wi (by rw[ok44.ws.cuts];exact hpi);have hgp:=ok44.wi.groups gp (C3 hxp);have hgpl:=(G1.1 hxp).1;have hsh:=(BV9 hgp.good).hlen;have hTv:T.length=x44.1.Txns.length:=hT.trans ok44.ws.txns.symm;have htv:(t-1).toNat<x44.1.Txns.length:=qz7;refine R5 ?_;refine A1 rfl (C2 rfl D3 E9 zA zA hp qz1) ?_;refine R11 ?_;refine A1 rfl (I4 3 rfl F8 C6 zA rfl zA qz7 Ax4) ?_;refine A1 rfl (r5 3 rfl zA rfl K6 C6 (by first|exact(S2 hxp)|exact B9 ((S2 hxp))|exact B9 (B9 ((S2 hxp)))|exact B9 (B9 (B9 ((S2 hxp))))|exact B9 (B9 (B9 (B9 ((S2 hxp)))))|exact B9 (B9 (B9 (B9 (B9 ((S2 hxp))))))) E5) ?_;refine zF rfl call23 (Bs1 gp hgp.good) G6 ?_;refine R1 ?_;refine zF rfl call94 (Ae0 (Ai8 gp) t qz7) F3 ?_;refine R4 ?_;intro b14;refine zC ?_ ?_
  ·intro h70;refine R6 ?_;refine A1 rfl (C2 rfl D3 E9 zA L1 hp0 qz1) ?_;refine R3 ?_;refine M2 [2,2,2,2,2,2,2] 2 7 (nwZ x44.1 T L) (fun zz=>nwZ zz.1 T L) rfl rfl rfl rfl call409 rfl rfl (DG8 b x44.1 X T L t p p0 (i9 tx.Got) (P2 tx.Ops tx.Got).2.2 gp ok44.wi hTv ⟨ht.1,htv⟩ hpi.1 hxp hz hk) (A2 zA (A2 zA BR0)) (fun a=>O4) ?_;intro x79 ok79;refine R3 ?_;exact H8 [0,0,0,0,0,0,0] 2 (nwZ x79.1 T L) ((x79.1,x79.2)) (qz69) rfl B7 Q4
  intro h70;refine R6 ?_;refine I0 (by':=8) 1 rfl rfl rfl rfl D3 type3 rfl rfl rfl rfl rfl rfl zA zA rfl BX7 ?_;intro v84_1;refine R6 ?_;refine Q8 i tm u (i+1) (tm++[(AN4 (Ai8 gp).Held t).1.Time]) (v84_1) ?_ ?_ (Le.trans (B4 [0,0] rfl) (D5 1 BM4 A6))
  ·exact⟨by omega,by rw[I2,hinv.2];rfl⟩
  omega
 intro h52 k52;refine R2 ?_;refine H3 Ac9 ?_;refine R4 ?_;refine A1 rfl (C2 rfl D3 E9 zA L1 hp0 qz1) ?_;refine R2 ?_;refine M2 [0,0,0,0,0,0,0,0] 0 8 (nwZ x44.1 T L) (fun zz=>nwZ x44.1 T L) rfl rfl rfl rfl call406 rfl rfl (DG9 u b x44.1 X T L t p0 true tm g0 qz7 ok44.wi hpr.1 (by rw[ok44.gr];exact hx0)) (A2 zA (A2 zA (A2 zA (A2 Ao8 G6)))) (fun a=>O4) ?_;intro x92 ok92;refine R3 ?_;exact H8 [1,1,1,1,1,1,1] 1 (nwZ x44.1 T L) ((Z7 x44.1 p0.toNat x92.1,x92.2)) (qz69) rfl B7 Q4
theorem dead_own (b:Nat)(w:C7)(X:WX)(T:List (Value×Value))(L:List Value)(t:Int)(hw:WI w)(hq:∀tx,w.Txns[(t-1).toNat]? =some tx→0≤tx.Begin∧tx.Begin<w.Count)(hT:T.length=w.Txns.length)(ht:1≤t∧(t-1).toNat<w.Txns.length):M0 390 [AV.ptr b 0,AV.int t] (WB b w X T L) (fun v:C7×Bool=>WI v.1∧WS w v.1) (fun v=>WB b v.1 X T L) (fun v=>AV.bool v.2):=by
 have htn:=hw.txns.1;obtain⟨tx,htx⟩:=B2 ht.2;obtain⟨y,hy⟩:=B2 (show (t-1).toNat<T.length by omega);have htk:=hw.txns.2 tx (C3 htx);have hwf:=wf_end hw htx (hq tx htx);obtain⟨W',hW⟩:∃W',AO3 w (t-1).toNat (CQ0 tx w.Count)=W':=⟨_,rfl⟩;rw[hW]at hwf;have hfr:=Bi7 b W' X T L t hwf.wi;refine C8 func390 rfl ntmps390 rfl ?_;refine R13 ?_;refine A1 rfl (I4 5 rfl M4 U3 zA rfl zA qz7 Ax4) ?_;refine R6 ?_;refine zq74 ?_;refine zC ?_ ?_
 ·intro h24;refine R8 ?_;refine zq83 ?_;refine q9 5 rfl rfl rfl zA zA (X2 _ _) rfl E9 qz2 rfl ?_;refine R2 ?_;refine H3 (show _=WB b W' X T L from(by rw[←hW];unfold WB AO3;dsimp only;rw[AT7 htx hy,Ao0 (p':=CQ0 tx w.Count) htx (fun _=>rfl)];rfl)) ?_;refine zq43 ?_;intro x35 ok35;refine R6 ?_;exact H8 [0,0,0,0,0,0,0] 0 (nin B5.ow W'.Txns T++nin C5.ow W'.Looks L) ((Ab0 W' x35,true)) (qz62) rfl B7 Q4
 intro h24;refine R2 ?_;refine zq12 ?_;refine P1 _ [(0,false),(1,false),(2,false),(3,false),(4,false),(5,false),(6,false),(7,false),(8,true),(9,false),(10,false),(11,false),(12,false),(13,false),(14,false),(15,false),(16,false)] E3 E3 rfl (U8 7) ?_;refine R6 ?_;refine N0 rfl rfl rfl (fun ext=>j7 5 rfl zA rfl qz2 rfl) ?_;refine zq125 ?_;intro x45 ok45;refine R13 ?_;refine zq119 ?_;refine H3 Ac9 ?_;refine zC ?_ ?_
 ·intro h51;refine R5 ?_;exact H8 [0,0,0,0,0,0,0] 0 (nwZ w T L) ((w,false)) (qz62) rfl B7 Q4
 intro h51;have hso:AK5 tx=true:=(by simpa using h51);obtain⟨p0,hp0⟩:=BW8 (cuts:=w.Cuts) hso;have hpr:=BQ6 (C3 hp0);obtain⟨g0,hx0⟩:=CE6 hw hpr;refine zq84 ?_;intro x58 ok58;refine R7 ?_;refine H3 Ac9 ?_;refine zC ?_ ?_
 ·intro h61;refine R6 ?_;exact H8 [0,0,0,0,0,0,0] 0 (nwZ x58.1 T L) ((x58.1,x58.2.1)) (qz62) rfl B7 Q4
 intro h61;refine R6 ?_;refine A1 rfl (C2 rfl D3 E9 zA L1 hp0 qz1) ?_;refine R1 ?_;refine M2 [0,0,0,0,0,0,0] 0 7 (nwZ x58.1 T L) (fun zz=>nwZ x58.1 T L) rfl rfl rfl rfl call406 rfl rfl (DV0 b x58.1 X T L t p0 false [] g0 ok58.wi hpr.1 (by rw[ok58.gr];exact hx0)) (A2 zA (A2 zA (A2 zA (A2 Ao8 (A2 j0 A9))))) (fun a=>O4) ?_;intro x68 ok68;refine R3 ?_;exact H8 [0,0,0,0,0,0,0] 0 (nwZ x58.1 T L) ((Z7 x58.1 p0.toNat x68.1,x68.2)) (qz62) rfl B7 Q4
theorem Cx6 (b:Nat)(w:C7)(X:WX)(T:List (Value×Value))(L:List Value)(g t:Int)(gi:C1)(hw:WI w)(h0:0≤g)(hx:w.Groups[g.toNat]? =some gi):M0 394 [AV.ptr b 0,AV.int g,AV.int t] (WB b w X T L) (fun v:C7×Bool=>WI v.1∧WS w v.1) (fun v=>WB b v.1 X T L) (fun v=>AV.bool v.2):=by
 have hng:=hw.n;have hgi:=hw.groups gi (C3 hx);have hgl:=(G1.1 hx).1;refine C8 func394 rfl ntmps394 rfl ?_;refine R13 ?_;refine A1 rfl (I4 2 rfl F8 C6 zA rfl zA Aj9 (by first|(simp only[A8];omega)|(simp at hc⊢;omega))) ?_;refine A1 rfl (r5 2 rfl zA rfl K6 C6 qz105 E5) ?_;refine zF rfl call370 (AO0 gi hgi.good) G6 ?_;refine zC ?_ ?_
 ·intro h22;refine R5 ?_;exact H8 [0,0,0,0,0,0,0] 0 (nwZ w T L) ((w,false)) (CQ9) rfl B7 Q4
 intro h22;have hrd:AX0 gi=true:=BU5;have hl:=AP9 hrd;have hgs:=AS6 hgi.good hl;have hhl:=hgs.hlen;have hhs:=Ae0 (Z8 gi) t qz7;have hld:=DV2 hgs t;obtain⟨H,hH⟩:∃H,AN4 (Z8 gi).Held t=H:=⟨_,rfl⟩;rw[hH]at hhs hld;obtain⟨gl,hgx⟩:∃gl:C1,H.1.Lead.toNat<w.Groups.length→w.Groups[H.1.Lead.toNat]? =some gl:=⟨(w.Groups[H.1.Lead.toNat]?).getD gi,fun h9=>by rw[Q5 h9];rfl⟩;refine R5 ?_;refine A1 rfl (AA5 [0,0,0,0,0,0,0] 0 (nwZ w T L) ([]) rfl call122 rfl rfl (r8) (Ag2 b w X T L g gi hx h0 hgi.good hl) F3) ?_;refine R1 ?_;refine zF rfl call94 (hhs) F3 ?_;refine R4 ?_;intro b7;refine R5 ?_;refine H3 Ac9 ?_;refine R22 ?_;refine M1 rfl (Y6 rfl rfl rfl) (fun hc=>I4 3 rfl F8 C6 (A7 rfl hc) rfl (A7 rfl hc) Aj9 (by first|(simp only[A8];omega)|(simp at hc⊢;omega))) ?_;refine M1 rfl (Y6 rfl rfl rfl) (fun hc=>r5 3 rfl (A7 rfl hc) rfl K6 C6 qz105 E5) ?_;refine M1 rfl (Y6 rfl rfl rfl) (fun hc=>zG rfl call370 (AO0 gl (hw.groups gl (C3 (hgx BF7))).good) zS) ?_;refine zC ?_ ?_
 ·intro h56;refine R5 ?_;exact H8 [1,1,1,1,1,1,1] 1 (nwZ w T L) ((w,false)) (CQ9) rfl B7 Q4
 intro h56;have hfa:H.2=true∧H.1.Lead.toNat<w.Groups.length∧AX0 gl=true:=(by simp at h56;exact⟨h56.1.1,by omega,h56.2⟩);have hxl:=hgx hfa.2.1;have hgg:=hw.groups gl (C3 hxl);have hll:=AP9 hfa.2.2;have hsl:=At4 hgg.good hll;have hfl:=AS6 hgg.good hll;have hst:=hsl.tlen;have hft:=hfl.tlen;have hput:=Aw8 b w X T L g ⟨2,t,0,0,[],[],false⟩ gi hx h0 hgi (show (0:Nat)≤1000 from by decide) (fun w9 hw9=>by cases hw9);have hput2:=Aw8 b w X T L g ⟨3,t,(y5 (q7 gl).Told t).1.Time,0,[],[],(y5 (q7 gl).Told t).1.Yes⟩ gi hx h0 hgi (show (0:Nat)≤1000 from by decide) (fun w9 hw9=>by cases hw9);have hput3:=Aw8 b w X T L H.1.Lead ⟨2,t,0,0,[],[],false⟩ gl hxl hld.1 hgg (show (0:Nat)≤1000 from by decide) (fun w9 hw9=>by cases hw9);refine zC ?_ ?_
 ·intro h60;refine R6 ?_;refine M2 [1,1,1,1,1,1,1] 1 7 (nwZ w T L) (fun zz=>nwZ w T L) rfl rfl rfl rfl call120 rfl rfl (hput) (A2 zA (A2 zA (A2 (AU6 zA Ap7) A9))) (fun a=>O4) ?_;intro x65 ok65;refine R3 ?_;exact H8 [0,0,0,0,0,0,0] 1 (nwZ w T L) ((Z7 w g.toNat x65.1,x65.2)) (CQ9) rfl B7 Q4
 intro h60;refine R7 ?_;refine A1 rfl (AA5 [1,1,1,1,1,1,1] 1 (nwZ w T L) ([]) rfl call372 rfl rfl (r8) (Aw7 b w X T L H.1.Lead gl hxl hld.1 hgg.good hll) F3) ?_;refine R1 ?_;refine zF rfl call93 (AJ7 (q7 gl) t qz7) F3 ?_;refine R4 ?_;intro b9;refine R4 ?_;refine H3 Ac9 ?_;refine zC ?_ ?_
 ·intro h75;refine R10 ?_;refine M2 [2,2,2,2,2,2,2] 2 7 (nwZ w T L) (fun zz=>nwZ w T L) rfl rfl rfl rfl call120 rfl rfl (hput2) (A2 zA (A2 zA (A2 (AU6 zA Ap7) A9))) (fun a=>O4) ?_;intro x84 ok84;refine R3 ?_;exact H8 [0,0,0,0,0,0,0] 2 (nwZ w T L) ((Z7 w g.toNat x84.1,x84.2)) (CQ9) rfl B7 Q4
 intro h75;refine R7 ?_;refine A1 rfl (AA5 [2,2,2,2,2,2,2] 2 (nwZ w T L) ([]) rfl call122 rfl rfl (r8) (Ag2 b w X T L H.1.Lead gl hxl hld.1 hgg.good hll) F3) ?_;refine R1 ?_;refine zF rfl call93 (AJ7 (Z8 gl) t qz7) F3 ?_;refine R4 ?_;intro b11;refine zC ?_ ?_
 ·intro h94;refine R5 ?_;refine M2 [3,3,3,3,3,3,3] 3 7 (nwZ w T L) (fun zz=>nwZ w T L) rfl rfl rfl rfl call192 rfl rfl (Az8 b w X T L H.1.Lead gl hxl hld.1 hgg) F3 (fun a=>O4) ?_;intro x98 ok98;refine R6 ?_;exact H8 [0,0,0,0,0,0,0] 3 (nwZ w T L) ((Z7 w H.1.Lead.toNat x98,true)) (CQ9) rfl B7 Q4
 intro h94;refine R8 ?_;refine M2 [3,3,3,3,3,3,3] 3 7 (nwZ w T L) (fun zz=>nwZ w T L) rfl rfl rfl rfl call120 rfl rfl (hput3) (A2 zA (A2 zA (A2 (AU6 zA Ap7) A9))) (fun a=>O4) ?_;intro x104 ok104;refine R3 ?_;exact H8 [0,0,0,0,0,0,0] 3 (nwZ w T L) ((Z7 w H.1.Lead.toNat x104.1,x104.2)) (CQ9) rfl B7 Q4
theorem CM3 (b:Nat)(w:C7)(X:WX)(T:List (Value×Value))(L:List Value)(t:Int)(hw:WI w):M0 367 [AV.ptr b 0,AV.int t] (WB b w X T L) (fun v:C7×Bool=>WI v.1∧WS w v.1) (fun v=>WB b v.1 X T L) (fun v=>AV.bool v.2):=by
 have hng:=hw.n;refine C8 func367 rfl ntmps367 rfl ?_;refine R16 ?_;refine zL [0,0,0,0,0,0,0] ?_;refine K5 [(0,_),(1,_),(11,_)] [] (fun (i:Nat) (v:C7)=>i≤w.Groups.length∧WI v∧WS w v) (fun i v=>[.box b 97 [AV.int v.Now,AV.int v.Count,AV.is X.cl,strs v.Cuts,AV.is X.gr,AV.is X.lo,AV.is X.pr,AV.is X.tx,AV.is X.lk],.arr X.cl 102 1 (v.Clocks.map S6.cs),.arr X.gr 38 3 (v.Groups.map C1.cs),.arr X.lo 105 1 (v.Locks.map fun l=>[AV.list 3 (l.map G9.cs)]),.arr X.pr 3 1 (v.Promised.map fun n=>[AV.int n]),.arr X.tx 94 10 (L4 B5.ocs v.Txns T),.arr X.lk 55 6 (L4 C5.ocs v.Looks L)]++(nwZ v T L)) (fun i v=>[(12,AV.int i)]) (fun i v=>w.Groups.length-i) (0) (w) ?_ (I1 (by (rw[T2];rfl)) A6) ?_
 ·exact⟨E4 _,hw,WS.refl w⟩
 intro i v hinv;refine H3 (T2 _) ?_;refine zK ?_ ?_
 ·intro h13 k13;obtain⟨gi,hgi⟩:=B2 (show ((i:Nat):Int).toNat<v.Groups.length by rw[hinv.2.2.groups];omega);refine R13 ?_;refine M2 [0,0,0,0,0,0,0] 0 7 (nwZ v T L) (fun zz=>nwZ zz.1 T L) rfl rfl rfl rfl call394 rfl rfl (Cx6 b v X T L (i:Int) t gi hinv.2.1 qz7 hgi) AD5 (fun a=>O4) ?_;intro x18 ok18;refine zC ?_ ?_
  ·intro h18;refine R5 ?_;exact H8 [0,0,0,0,0,0,0] 0 (nwZ x18.1 T L) ((x18.1,true)) ((by first|exact⟨ok18.1,hinv.2.2.trans ok18.2⟩|exact hinv.2)) rfl B7 Q4
  intro h18;refine R5 ?_;refine H5 i v (i+1) (x18.1) ?_ ?_ (I1 (Eq.trans B7 (T2 _).symm) A6)
  ·exact⟨by omega,ok18.1,hinv.2.2.trans ok18.2⟩
  omega
 intro h13 k13;refine R6 ?_;exact H8 [0,0,0,0,0,0,0] 0 (nwZ v T L) ((v,false)) ((by first|exact⟨ok18.1,hinv.2.2.trans ok18.2⟩|exact hinv.2)) rfl B7 Q4
theorem goOn_own (b:Nat)(w:C7)(X:WX)(T:List (Value×Value))(L:List Value)(t:Int)(hw:WI w)(hc:∀x∈w.Txns,x.Begin<w.Count)(hT:T.length=w.Txns.length)(ht:1≤t∧(t-1).toNat<w.Txns.length):M0 366 [AV.ptr b 0,AV.int t] (WB b w X T L) (fun v:(C7×Bool)×List (Value×Value)=>(WI v.1.1∧WS w v.1.1)∧v.2.length=T.length) (fun v=>WB b v.1.1 X v.2 L) (fun v=>AV.bool v.1.2):=by
 have htn:=hw.txns.1;obtain⟨tx,htx⟩:=B2 ht.2;obtain⟨y,hy⟩:=B2 (show (t-1).toNat<T.length by omega);have htk:=hw.txns.2 tx (C3 htx);have hsb:=htk.sb;have hstep:=CA2 tx.Ops y.1 tx.Got hsb.len hsb.ops hsb.got.2;refine C8 func366 rfl ntmps366 rfl ?_;refine R13 ?_;refine A1 rfl (I4 5 rfl M4 U3 zA rfl zA qz7 Ax4) ?_;refine R7 ?_;refine zq74 ?_;refine zC ?_ ?_
 ·intro h17;refine R5 ?_;exact H8 [0,0,0,0,0,0,0] 0 (nwZ w T L) (((w,false),T)) (CB3) rfl B7 Q4
 intro h17;refine R3 ?_;refine zq83 ?_;refine A1 rfl (Q6 5 rfl zA rfl O3 qz2 rfl) ?_;refine zC ?_ ?_
 ·intro h22;have hwf:=wf_beg hw htx BU5;obtain⟨W',hW⟩:∃W',AO3 w (t-1).toNat (CQ1 tx w.Count)=W':=⟨_,rfl⟩;rw[hW]at hwf;refine R8 ?_;refine zq83 ?_;refine q9 5 rfl rfl rfl zA zA (X2 _ _) rfl E9 qz2 rfl ?_;refine R2 ?_;refine H3 (show _=WB b W' X T L from(by rw[←hW];unfold WB AO3;dsimp only;rw[AT7 htx hy,Ao0 (p':=CQ1 tx w.Count) htx (fun _=>rfl)];rfl)) ?_;refine R4 ?_;exact H8 [0,0,0,0,0,0,0] 0 (nin B5.ow W'.Txns T++nin C5.ow W'.Looks L) (((W',true),T)) (CB3) rfl B7 Q4
 intro h22;have hbg:0≤tx.Begin:=(by simp at h22;omega);have hq:∀tx,w.Txns[(t-1).toNat]? =some tx→0≤tx.Begin∧tx.Begin<w.Count:=(fun z hz=>by rw[htx]at hz;injection hz with hz;subst hz;exact⟨hbg,hc _ (C3 htx)⟩);refine R3 ?_;refine zq83 ?_;refine A1 rfl (Q6 5 rfl zA rfl O3 qz2 rfl) ?_;refine zC ?_ ?_
 ·intro h36;refine R4 ?_;refine M2 [0,0,0,0,0,0,0] 0 7 (nwZ w T L) (fun zz=>nwZ zz.1 T L) rfl rfl rfl rfl call367 rfl rfl (CM3 b w X T L t hw) F3 (fun a=>O4) ?_;intro x44 ok44;refine R3 ?_;exact H8 [0,0,0,0,0,0,0] 0 (nwZ x44.1 T L) (((x44.1,x44.2),T)) (CB3) rfl B7 Q4
 intro h36;refine R3 ?_;refine zq74 ?_;refine zC ?_ ?_
 ·intro h45;refine R4 ?_;refine M2 [0,0,0,0,0,0,0] 0 7 (nwZ w T L) (fun zz=>nwZ zz.1 T L) rfl rfl rfl rfl call390 rfl rfl (dead_own b w X T L t hw hq hT ht) F3 (fun a=>O4) ?_;intro x52 ok52;refine R3 ?_;exact H8 [0,0,0,0,0,0,0] 0 (nwZ x52.1 T L) (((x52.1,x52.2),T)) (CB3) rfl B7 Q4
 intro h45;refine R2 ?_;refine zq12 ?_;refine P1 _ [(0,false),(1,false),(2,false),(3,false),(4,false),(5,false),(6,false),(7,false),(8,true),(9,false),(10,false),(11,false),(12,false),(13,false),(14,false)] E3 E3 rfl (U8 7) ?_;refine R1 ?_;refine N0 rfl rfl rfl (fun ext=>j7 5 rfl zA rfl qz2 rfl) ?_;refine N0 rfl rfl rfl (fun ext=>O1 5 rfl M5 rfl AR0 zA rfl rfl qz2) ?_;refine N0 rfl rfl rfl (fun ext=>Q6 5 rfl zA rfl isAgg84 qz2 rfl) ?_;refine R1 ?_;refine N0 rfl rfl rfl (fun ext=>j7 5 rfl zA rfl qz2 rfl) ?_;refine N0 rfl rfl rfl (fun ext=>O1 5 rfl M5 rfl Y5 zA rfl rfl qz2) ?_;refine N0 rfl rfl rfl (fun ext=>Q6 5 rfl zA rfl AM5 qz2 rfl) ?_;refine U2 rfl rfl rfl (AC6 8 (S9 [7] rfl call161 rfl (hstep) F3 rfl)) (fun a _=>qz3) ?_;intro x62 ok62;refine R11 ?_;refine zL [0,0,0,0,0,0,0,1,0] ?_;refine AWP.le (U1 7 (t:=nwZ w T L) ((AZ7 htx hy).symm)) ?_;refine H3 Ac9 ?_;refine zC ?_ ?_
 ·intro h67;have k67:=J9 h67;(try simp only[A8]at k67);have hkl:=step_ask htk (by simpa using h67);refine R5 ?_;refine M2 [0,0,0,0,0,0,0] 0 7 (nwZ w T L) (fun zz=>nwZ zz.1.1 zz.2 L) rfl rfl rfl rfl call391 rfl rfl (read_own b w X T L t _ hw hT ht hkl) AD5 (fun a=>O4) ?_;intro x72 ok72;refine R3 ?_;exact H8 [0,0,0,0,0,0,0] 0 (nwZ x72.1.1 x72.2 L) (((x72.1.1,x72.1.2),x72.2)) (CB3) rfl B7 Q4
 intro h67;have k67:=J4 h67;(try simp only[A8]at k67);refine zC ?_ ?_
 ·intro h73;have k73:=J9 h73;(try simp only[A8]at k73);refine zq151 ?_;intro x77 ok77;refine R6 ?_;exact H8 [0,0,0,0,0,0,0] 0 (nwZ x77 T L) (((x77,true),T)) (CB3) rfl B7 Q4
 intro h73;have k73:=J4 h73;(try simp only[A8]at k73);refine R5 ?_;refine M2 [0,0,0,0,0,0,0] 0 7 (nwZ w T L) (fun zz=>nwZ zz.1 T L) rfl rfl rfl rfl call393 rfl rfl (DV5 b w X T L t hw hq hT ht) F3 (fun a=>O4) ?_;intro x80 ok80;refine R3 ?_;exact H8 [0,0,0,0,0,0,0] 0 (nwZ x80.1 T L) (((x80.1,x80.2),T)) (CB3) rfl B7 Q4
theorem Cx7 (s:Ac5):D6 369 [AV.agg s.cs] (AV.int (m5 1 s.High)):=by
  refine B0 func369 rfl ntmps369 rfl ?_;refine R3 ?_;intro b1;refine R6 ?_;refine zq197 ?_;exact zq218
theorem look_own (b:Nat)(w:C7)(X:WX)(T:List (Value×Value))(L:List Value)(n:Int)(hw:WI w)(hc9:∀x∈w.Looks,x.Begin<w.Count)(hL:L.length=w.Looks.length)(hn:0≤n∧n.toNat<w.Looks.length):M0 338 [AV.ptr b 0,AV.int n] (WB b w X T L) (fun v:(C7×Bool)×List Value=>(WI v.1.1∧WS w v.1.1)∧v.2.length=L.length) (fun v=>WB b v.1.1 X T v.2) (fun v=>AV.bool v.1.2):=by
 obtain⟨lk,hlk⟩:=B2 hn.2;obtain⟨z,hz⟩:=B2 (show n.toNat<L.length by omega);have hlo:=hw.looks.2 lk (C3 hlk);obtain⟨c,hcx,hcg,hnow,hsl,hsh⟩:=DV3 hw hlo;have hnd:=hlo.node;have hsp:=BW7 b w X T L lk.Node c hcx hnd.1 hcg hnow;have hsp2:=BW7 b (Aa7 w n.toNat (Ar0 lk w.Count)) X T L lk.Node c hcx hnd.1 hcg hnow;have hkl:=hlo.keys.1;have hgl8:=hlo.got.1;have hmx:0≤m5 1 (AB3 c w.Now).High∧m5 1 (AB3 c w.Now).High≤1000000:=by unfold m5;split<;>omega
 refine C8 func338 rfl ntmps338 rfl ?_;refine R12 ?_;refine A1 rfl (I4 6 rfl j8 AJ8 zA rfl zA qz7 Cl2) ?_;refine R7 ?_;refine zq165 ?_;refine zC ?_ ?_
 ·intro h17;refine R5 ?_;exact zq214
 intro h17;refine R3 ?_;refine zq165 ?_;refine zC ?_ ?_
 ·intro h23;refine R5 ?_;refine zq165 ?_;refine A1 rfl (AA5 [0,0,0,0,0,0,0] 0 (nwZ w T L) ([]) rfl call123 rfl rfl (r8) (hsp) F3) ?_;refine zF rfl call369 (Cx7 _) G6 ?_;refine zq23 ?_;refine q9 6 rfl rfl rfl zA zA (X2 _ _) rfl E9 qz0 rfl ?_;refine R9 ?_;refine zq23 ?_;refine q9 6 rfl rfl rfl zA zA (X2 _ _) rfl E9 qz0 rfl ?_;refine R4 ?_;refine zq165 ?_;refine R4 ?_;exact H8 [0,0,0,0,0,0,0] 0 (nwZ w T L) (((Aa7 w n.toNat (BQ7 lk (m5 1 (AB3 c w.Now).High) w.Count),_),L)) (CR2) rfl CR3 (O2 rfl (A5 rfl B7))
 intro h23;have hbg:0≤lk.Begin:=(by simp at h23;omega);have hbc:=hc9 lk (C3 hlk);refine R1 ?_;refine zq54 ?_;refine R2 ?_;refine zq162 ?_;refine R2 ?_;refine zq154 ?_;refine zC ?_ ?_
 ·intro h52;refine zL [0,0,0,0,0,0,0,0] ?_;refine AWP.le (U1 7 (t:=nwZ w T L) ((Bs4 hlk hz).symm)) ?_;refine H3 Ac9 ?_;refine R8 ?_;refine zq23 ?_;refine q9 6 rfl rfl rfl zA zA (X2 _ _) rfl E9 qz0 rfl ?_;refine R2 ?_;refine H3 (show _=WB b (Aa7 w n.toNat (Ar0 lk w.Count)) X T L from(by unfold WB Aa7;dsimp only;rw[AT7 hlk hz,Ao0 (p':=Ar0 lk w.Count) hlk (fun _=>rfl)];rfl)) ?_;refine R2 ?_;refine zq34 ?_;refine R2 ?_;refine zq34 ?_;refine B3 rfl rfl (AA5 [0,0,0,0,0,0,0] 0 (nin B5.ow w.Txns T++nin C5.ow (w.Looks.set n.toNat (Ar0 lk w.Count)) L) ([]) rfl call123 rfl rfl (r8) (hsp2) F3) ?_;refine B3 rfl rfl (CH0 rfl underlying163 rfl O3 zA rfl) ?_;refine R4 ?_;exact H8 [0,0,0,0,0,0,0] 0 (nin B5.ow w.Txns T++nin C5.ow (w.Looks.set n.toNat (Ar0 lk w.Count)) L) (((Aa7 w n.toNat (Ar0 lk w.Count),_),L)) (CR2) rfl CR3 (O2 rfl (A5 rfl B7))
 intro h52;have hlt:lk.Got.length<lk.Keys.length:=(by simp only[A8]at h52;have h9:=J4 h52;omega);obtain⟨k,hk⟩:=B2 hlt;have hk12:=hlo.keys.2 k (C3 hk);obtain⟨p,hp⟩:∃p:Nat,r4 w.Cuts k=p:=⟨_,rfl⟩;obtain⟨gi,hx,hgl⟩:=CM0 hw k;rw[hp]at hx hgl;have hgi:=hw.groups gi (C3 hx);have hla:=lead_any hgi.good;have hs1:=BE2 (AH7.2 hla.1);have hs2:=BE2 (AH7.2 hla.2);have hcs:=BJ0 hla.1.cells;have hcl:=CL9 hla.1.cells k lk.Time;have hpart:D6 96 [strs w.Cuts,AV.str k] (AV.int ((p:Nat):Int)):=(by rw[←hp];exact Ae1 w.Cuts k);obtain⟨pr,hpx⟩:=B2 (show ((p:Nat):Int).toNat<w.Promised.length by rw[hw.promised.1];omega);have hprl:=(G1.1 hpx).1;have hprb:=hw.promised.2 pr (C3 hpx);have htm:=hlo.time;have hmy:0≤m5 pr lk.Time∧m5 pr lk.Time≤1000000:=(by unfold m5;split<;>omega);have hwp:=DK6 hw (i:=((p:Nat):Int).toNat) hmy;have hsk:=Aw7 b (Aa6 w ((p:Nat):Int).toNat (m5 pr lk.Time)) X T L (p:Int) gi hx qz7 hgi.good;refine R4 ?_;refine zq154 ?_;refine R1 ?_;refine zq162 ?_;refine R1 ?_;refine B3 rfl rfl (AX5 rfl E2 I6 zA zA BF8 (by rw[A8,o5];exact S2 hk)) ?_;refine R4 ?_;refine zL [0,0,0,0,0,0,0,0] ?_;refine AWP.le (U1 7 (t:=nwZ w T L) ((Bs4 hlk hz).symm)) ?_;refine H3 Ac9 ?_;refine R7 ?_;refine zF rfl call96 (hpart) F3 ?_;refine R11 ?_;refine B3 rfl rfl (I4 2 rfl F8 C6 zA rfl zA qz7 Cl2) ?_;refine B3 rfl rfl (r5 2 rfl zA rfl K6 C6 qz5 E5) ?_;refine B3 rfl rfl (zG rfl call370 (AO0 gi hgi.good) G6) ?_;refine R4 ?_;refine M1 rfl (Y6 rfl rfl rfl) (fun hc=>AA5 [0,0,0,0,0,0,0] 0 (nwZ w T L) ([]) rfl call372 rfl rfl (r8) (Aw7 b w X T L (p:Int) gi hx qz7 hgi.good (AP9 (by simpa using hc))) zS) ?_;refine R2 ?_;refine zq80 ?_;refine M1 rfl (Y6 rfl rfl rfl) (fun hc=>zG rfl call371 (Br3 (q7 gi) k lk.Time qz7) zS) ?_;refine R6 ?_;refine M1 rfl (Y6 rfl rfl rfl) (fun hc=>AA5 [0,0,0,0,0,0,0] 0 (nwZ w T L) ([]) rfl call122 rfl rfl (r8) (Ag2 b w X T L (p:Int) gi hx qz7 hgi.good (AP9 (by simp at hc;exact hc.1))) zS) ?_;refine R2 ?_;refine zq80 ?_;refine M1 rfl (Y6 rfl rfl rfl) (fun hc=>zG rfl call371 (Br3 (Z8 gi) k lk.Time qz7) zS) ?_;refine zC ?_ ?_
 ·intro h137;refine R5 ?_;exact zq214
 intro h137;have hrd:AX0 gi=true:=(by simp at h137;exact h137.1.1);have hl:=AP9 hrd;have hsk:=hsk hl;refine R2 ?_;refine J3 20 E3 E3 rfl ?_;refine R12 ?_;refine B3 rfl rfl (I4 4 rfl D3 E9 zA rfl zA qz7 Cl2) ?_;refine B3 rfl rfl (AC8 4 rfl zA rfl O3 (Bs2 (g:=AV.int) hpx)) ?_;refine R1 ?_;refine zq34 ?_;refine B3 rfl rfl (zG rfl call193 (AH8 _ _) F3) ?_;refine B3 rfl rfl (I4 4 rfl D3 E9 zA rfl zA qz7 Cl2) ?_;refine R1 ?_;refine e8 4 rfl rfl rfl zA zA (X2 _ _) rfl E9 rfl qz1 ?_;refine R2 ?_;refine H3 (show _=WB b (Aa6 w ((p:Nat):Int).toNat (m5 pr lk.Time)) X T L from(by unfold WB Aa6;dsimp only;rw[AF4];rfl)) ?_;refine R3 ?_;refine B3 rfl rfl (AA5 [0,0,0,0,0,0,0] 0 (nwZ w T L) ([]) rfl call372 rfl rfl (r8) (hsk) F3) ?_;refine B3 rfl rfl (CH0 rfl AA3 rfl isAgg60 zA rfl) ?_;refine R2 ?_;refine zq34 ?_;refine B3 rfl rfl (zG rfl call95 (BZ7 (q7 gi).Cells k lk.Time qz7) AD5) ?_;refine zC ?_ ?_
 ·intro h172;obtain⟨G,hG⟩:∃G:H7,G=⟨k,[],(cellAt (q7 gi).Cells k lk.Time).2⟩:=⟨_,rfl⟩;have hGs:G.size≤64:=(by rw[hG];unfold H7.size;simp only[T5];omega);refine R1 ?_;refine zq13 ?_;refine R2 ?_;refine zq54 ?_;refine R3 ?_;refine zq141 ?_;intro v183_1;refine zq78 ?_;refine O7 7 rfl fun one_v183_1=> ?_;refine q9 6 rfl rfl rfl zA zA (F6 one_v183_1) rfl Y5 qz0 rfl ?_;refine R2 ?_;refine H3 Ac9 ?_;refine zL [0,0,0,0,0,0,0,0] ?_;refine AWP.le (U1 7 (t:=nin B5.ow w.Txns T++nin C5.ow (w.Looks.set n.toNat (Af2 lk G)) (L.set n.toNat v183_1)) ((Ax0 (b:=[Go.AV.Own.arr v183_1 58 3 ((lk.Got++[G]).map H7.cs)]++(nin C5.ow (w.Looks.eraseIdx n.toNat) (L.eraseIdx n.toNat)++nin B5.ow w.Txns T)) (by subst hG;rw[Y3];rfl) (lk_put (w:=w) (T:=T) (p':=Af2 lk G) (y':=v183_1) hlk hz)))) ?_;refine R4 ?_;exact H8 [0,0,0,0,0,0,0] 0 (nin B5.ow w.Txns T++nin C5.ow (w.Looks.set n.toNat (Af2 lk G)) (L.set n.toNat v183_1)) (((Aa7 (Aa6 w ((p:Nat):Int).toNat (m5 pr lk.Time)) n.toNat (Af2 lk G),true),L.set n.toNat v183_1)) (CR2) rfl CR3 (O2 rfl (A5 rfl B7))
 intro h172;obtain⟨G,hG⟩:∃G:H7,G=⟨k,(cellAt (q7 gi).Cells k lk.Time).1,(cellAt (q7 gi).Cells k lk.Time).2⟩:=⟨_,rfl⟩;have hGs:G.size≤64:=(by rw[hG];unfold H7.size;dsimp only;omega);refine R2 ?_;refine zq54 ?_;refine R3 ?_;refine zq141 ?_;intro v183_2;refine zq78 ?_;refine O7 7 rfl fun one_v183_2=> ?_;refine q9 6 rfl rfl rfl zA zA (F6 one_v183_2) rfl Y5 qz0 rfl ?_;refine R2 ?_;refine H3 Ac9 ?_;refine zL [0,0,0,0,0,0,0,0] ?_;refine AWP.le (U1 7 (t:=nin B5.ow w.Txns T++nin C5.ow (w.Looks.set n.toNat (Af2 lk G)) (L.set n.toNat v183_2)) ((Ax0 (b:=[Go.AV.Own.arr v183_2 58 3 ((lk.Got++[G]).map H7.cs)]++(nin C5.ow (w.Looks.eraseIdx n.toNat) (L.eraseIdx n.toNat)++nin B5.ow w.Txns T)) (by subst hG;rw[Y3];rfl) (lk_put (w:=w) (T:=T) (p':=Af2 lk G) (y':=v183_2) hlk hz)))) ?_;refine R4 ?_;exact H8 [0,0,0,0,0,0,0] 0 (nin B5.ow w.Txns T++nin C5.ow (w.Looks.set n.toNat (Af2 lk G)) (L.set n.toNat v183_2)) (((Aa7 (Aa6 w ((p:Nat):Int).toNat (m5 pr lk.Time)) n.toNat (Af2 lk G),true),L.set n.toNat v183_2)) (CR2) rfl CR3 (O2 rfl (A5 rfl B7))
theorem Bi9 (b:Nat)(w:C7)(X:WX)(T:List (Value×Value))(L:List Value)(a:r3)(hw:WI w)(ha:AB4 a):M0 336 [AV.ptr b 0,AV.agg a.cs] (WB b w X T L) (fun v:C7×Bool=>v.2=true→WI v.1∧WS w v.1) (fun v=>WB b v.1 X T L) (fun v=>AV.bool v.2):=by
 have hng:=hw.n;have hcl:=hw.clocks.1;obtain⟨⟨ha1,ha2⟩,hb1,hb2⟩:=ha;refine C8 func336 rfl ntmps336 rfl ?_;refine R3 ?_;intro b3;refine R14 ?_;refine B3 rfl rfl (A4 rfl call87 rfl (T7 _ _ _) Ax5) ?_;refine R2 ?_;refine A3 ?_ ?_
 ·intro h22;refine R5 ?_;exact H8 [1,1,1,1,1,1,1] 1 (nwZ w T L) ((w,false)) (qz23) rfl qz66 (O2 rfl (A5 rfl B7))
 intro h22;have hin:0≤a.At∧a.At<3*(w.Groups.length:Int):=(by simp only[A8]at h22;have h9:within a.At 0 ((w.Clocks.length:Int)-1)=true:=BU5;unfold within at h9;rw[F0,H6,H6]at h9;omega);obtain⟨q,hq⟩:∃q:Int,Int.tdiv a.At 3=q:=⟨_,rfl⟩;obtain⟨m,hm⟩:∃m:Int,Int.tmod a.At 3=m:=⟨_,rfl⟩;obtain⟨h0,hql,hm0,hm3,hnq⟩:=third hin hq hm;obtain⟨gi,hx⟩:=B2 (show q.toNat<w.Groups.length by omega);have hgi:=hw.groups gi (C3 hx);have hvs:=BE1 hgi.good;have hwq:IntKind.i64.wrap q=q:=BR1 qz7;obtain⟨c,hcx⟩:=B2 (show a.At.toNat<w.Clocks.length by omega);refine R5 ?_;refine A1 rfl (Cl7 rfl (A0 rfl) L1 qz1) ?_;refine R3 ?_;simp only[hq,hwq];refine R2 ?_;intro b6;refine R17 ?_;refine A3 ?_ ?_
 ·intro h45;refine R1 ?_;refine J3 12 E3 E3 rfl ?_;refine R11 ?_;refine B3 rfl rfl (I4 3 rfl J0 u6 (A0 rfl) rfl (A0 rfl) qz7 AE8) ?_;refine R1 ?_;refine e8 3 rfl rfl rfl (A0 rfl) (A0 rfl) (e6 _) rfl u6 rfl qz1 ?_;refine R5 ?_;refine A1 rfl (A4 rfl call87 rfl (T7 _ _ _) AR5) ?_;refine R3 ?_;exact H8 [2,2,2,2,2,2,2] 2 (nwZ w T L) ((CO9 w a.At.toNat ⟨a.By-5⟩,within a.By 0 10)) (qz23) rfl qz66 (O2 rfl (A5 rfl B7))
 intro h45;refine R5 ?_;refine A3 ?_ ?_
 ·intro h62;refine R5 ?_;refine M2 [2,2,2,2,2,2,2] 2 7 (nwZ w T L) (fun zz=>nwZ zz.1 T L) rfl rfl rfl rfl call50 rfl rfl (De8 b w X T L a.At hw hin) F3 (fun a=>O4) ?_;intro x67 ok67;refine R3 ?_;exact H8 [0,0,0,0,0,0,0] 2 (nwZ x67.1 T L) ((x67.1,x67.2)) (qz23) rfl qz66 (O2 rfl (A5 rfl B7))
 intro h62;refine R5 ?_;refine A3 ?_ ?_
 ·intro h68;refine R1 ?_;refine Z9 _ 17 (.pure 0 (.pure 1 (.pure 2 (.pure 3 (.pure 4 (.pure 5 (.pure 6 (.pure 7 (.pure 8 (.pure 9 (.pure 10 (.pure 11 (.pure 12 (.pure 13 (.pure 14 (.e1 15 (.e1 16 .nil))))))))))))))))) E3 E3 rfl (U8 9) ?_;refine R6 ?_;refine N8 rfl rfl rfl (fun ext=>I4 4 rfl F8 C6 (A0 rfl) rfl (A0 rfl) qz7 AE8) ?_;refine N8 rfl rfl rfl (fun ext=>r5 4 rfl (A0 rfl) rfl K6 C6 qz5 E5) ?_;refine R2 ?_;refine N8 rfl rfl rfl (fun ext=>BM8 rfl (A0 rfl) L1 qz1) ?_;simp only[hm];refine N8 rfl rfl rfl (fun ext=>A4 rfl call364 rfl (Cg9 gi m qz7) F3) ?_;refine R4 ?_;refine F7 rfl rfl rfl (AC6 9<|S4 rfl zeroValue38 rfl) (fun a _=>qz3) ?_;intro b8 _;refine R1 ?_;refine AZ3 rfl rfl rfl (AB5 9 rfl rfl (A0 rfl) (A0 rfl) (e6 _) rfl C6 rfl) (fun a _=>qz3) ?_;intro _ _;refine R13 ?_;refine J3 8 E3 E3 rfl ?_;refine R7 ?_;refine B3 rfl rfl (I4 4 rfl F8 C6 (A0 rfl) rfl (A0 rfl) qz7 AE8) ?_;refine R1 ?_;refine e8 4 rfl rfl rfl (A0 rfl) (A0 rfl) (e6 _) rfl C6 rfl qz1 ?_;refine R7 ?_;exact H8 [2,2,2,2,2,2,2] 3 (nwZ w T L) ((Z7 w q.toNat (AD4 gi m).1,(AD4 gi m).2)) (qz23) rfl qz66 (O2 rfl (A5 rfl B7))
 intro h68;refine R1 ?_;refine Z9 _ 17 (.pure 0 (.pure 1 (.pure 2 (.pure 3 (.pure 4 (.pure 5 (.pure 6 (.pure 7 (.pure 8 (.pure 9 (.pure 10 (.pure 11 (.pure 12 (.pure 13 (.pure 14 (.e1 15 (.e1 16 .nil))))))))))))))))) E3 E3 rfl (U8 9) ?_;refine R6 ?_;refine N8 rfl rfl rfl (fun ext=>I4 4 rfl F8 C6 (A0 rfl) rfl (A0 rfl) qz7 AE8) ?_;refine N8 rfl rfl rfl (fun ext=>r5 4 rfl (A0 rfl) rfl K6 C6 qz5 E5) ?_;refine R2 ?_;refine N8 rfl rfl rfl (fun ext=>BM8 rfl (A0 rfl) L1 qz1) ?_;simp only[hm];refine N8 rfl rfl rfl (fun ext=>A4 rfl call365 rfl (Ch0 gi m qz7) F3) ?_;refine R4 ?_;refine F7 rfl rfl rfl (AC6 9<|S4 rfl zeroValue38 rfl) (fun a _=>qz3) ?_;intro b10 _;refine R1 ?_;refine AZ3 rfl rfl rfl (AB5 9 rfl rfl (A0 rfl) (A0 rfl) (e6 _) rfl C6 rfl) (fun a _=>qz3) ?_;intro _ _;refine R13 ?_;refine J3 8 E3 E3 rfl ?_;refine R7 ?_;refine B3 rfl rfl (I4 4 rfl F8 C6 (A0 rfl) rfl (A0 rfl) qz7 AE8) ?_;refine R1 ?_;refine e8 4 rfl rfl rfl (A0 rfl) (A0 rfl) (e6 _) rfl C6 rfl qz1 ?_;refine R7 ?_;exact H8 [2,2,2,2,2,2,2] 3 (nwZ w T L) ((Z7 w q.toNat (AF6 gi m).1,(AF6 gi m).2)) (qz23) rfl qz66 (O2 rfl (A5 rfl B7))
theorem CV2 (b:Nat)(w:C7)(X:WX)(T:List (Value×Value))(L:List Value)(a:r3)(hw:WI w)(hc9:∀x∈w.Txns,x.Begin<w.Count)(hT:T.length=w.Txns.length)(ha:AB4 a):M0 337 [AV.ptr b 0,AV.agg a.cs] (WB b w X T L) (fun v:(C7×Bool)×List (Value×Value)=>(WI v.1.1∧WS w v.1.1)∧v.2.length=T.length) (fun v=>WB b v.1.1 X v.2 L) (fun v=>AV.bool v.1.2):=by
 have htn:=hw.txns.1;obtain⟨⟨ha1,ha2⟩,hb1,hb2⟩:=ha;have hnl:=i0 (ocs:=B5.ocs) hT;refine C8 func337 rfl ntmps337 rfl ?_;refine R3 ?_;intro b3;refine R14 ?_;refine B3 rfl rfl (zG rfl call87 (T7 _ _ _) Ax5) ?_;refine zC ?_ ?_
 ·intro h16;refine R5 ?_;exact H8 [1,1,1,1,1,1,1] 1 (nwZ w T L) (((w,false),T)) (qz52) rfl B7 Q4
 intro h16;have hin:0≤a.At∧a.At.toNat<w.Txns.length:=(by rw[i0 hT]at h16;have h9:within a.At 0 ((w.Txns.length:Int)-1)=true:=BM3;unfold within at h9;rw[F0,H6,H6]at h9;omega);obtain⟨tx,htx⟩:=B2 hin.2;obtain⟨y,hy⟩:=B2 (show a.At.toNat<T.length by omega);have hat:1≤a.At+1∧(a.At+1-1).toNat<w.Txns.length:=⟨by omega,by rw[show a.At+1-1=a.At by omega];exact hin.2⟩;refine R10 ?_;refine B3 rfl rfl (I4 6 rfl M4 U3 zA rfl zA qz7 (by rw[i0 hT];omega)) ?_;refine zC ?_ ?_
 ·intro h27;refine R6 ?_;refine M2 [1,1,1,1,1,1,1] 1 7 (nwZ w T L) (fun zz=>nwZ zz.1.1 zz.2 L) rfl rfl rfl rfl call366 rfl rfl (goOn_own b w X T L (a.At+1) hw hc9 hT hat) F3 (fun a=>O4) ?_;intro x33 ok33;refine R3 ?_;exact H8 [0,0,0,0,0,0,0] 1 (nwZ x33.1.1 x33.2 L) (((x33.1.1,x33.1.2),x33.2)) (qz52) rfl B7 Q4
 intro h27;refine zC ?_ ?_
 ·intro h34;refine R6 ?_;refine M2 [1,1,1,1,1,1,1] 1 7 (nwZ w T L) (fun zz=>nwZ zz.1 T L) rfl rfl rfl rfl call367 rfl rfl (CM3 b w X T L (a.At+1) hw) F3 (fun a=>O4) ?_;intro x40 ok40;refine R3 ?_;exact H8 [0,0,0,0,0,0,0] 1 (nwZ x40.1 T L) (((x40.1,x40.2),T)) (qz52) rfl B7 Q4
 intro h34;refine R5 ?_;refine zq128 ?_;refine A1 rfl (Q6 6 rfl zA rfl AF5 qz2 rfl) ?_;refine R2 ?_;refine S0 rfl (fun hc=>j7 6 rfl (A7 rfl hc) rfl qz2 rfl) ?_;refine S0 rfl (fun hc=>O1 6 rfl M5 rfl E9 (A7 rfl hc) rfl rfl qz2) ?_;refine S0 rfl (fun hc=>Q6 6 rfl (A7 rfl hc) rfl O3 qz2 rfl) ?_;refine zC ?_ ?_
 ·intro h51;refine R5 ?_;exact H8 [1,1,1,1,1,1,1] 1 (nwZ w T L) (((w,false),T)) (qz52) rfl B7 Q4
 intro h51;have hwf:=wf_stop hw htx;obtain⟨W',hW⟩:∃W',AO3 w a.At.toNat (Bx2 tx)=W':=⟨_,rfl⟩;rw[hW]at hwf;have hfr:=Bi7 b W' X T L (a.At+1) hwf.wi;refine R4 ?_;refine zq128 ?_;refine q9 6 rfl rfl rfl zA Ao8 (Ai9 _) rfl j3 qz2 rfl ?_;refine R2 ?_;refine H3 (show _=Go.AV.Own.box b3 277 a.cs::WB b W' X T L from(by rw[←hW];unfold WB AO3;dsimp only;rw[AT7 htx hy,Ao0 (p':=Bx2 tx) htx (fun _=>rfl)];rfl)) ?_;refine R5 ?_;refine zq115 ?_;intro x59 ok59;refine R6 ?_;exact H8 [0,0,0,0,0,0,0] 1 (nin B5.ow W'.Txns T++nin C5.ow W'.Looks L) (((Ab0 W' x59,true),T)) (qz52) rfl B7 Q4
theorem Cl9 {w v:C7}{T T':List (Value×Value)}{L L':List Value}(hT:T.length=w.Txns.length)(hL:L.length=w.Looks.length)(h:WI v∧WS w v)(h1:T'.length=T.length)(h2:L'.length=L.length)(hc:w.Count<1000000):DoOk w v T' L':=⟨h.1,⟨h.2.count,hc⟩,by rw[h1,hT,h.2.txns],by rw[h2,hL,h.2.looks]⟩
theorem do_own (b:Nat)(w:C7)(X:WX)(T:List (Value×Value))(L:List Value)(a:r3)(hw:WI w)(hq:WQ w)(hT:T.length=w.Txns.length)(hL:L.length=w.Looks.length)(ha:AB4 a):M0 304 [AV.ptr b 0,AV.agg a.cs] (WB b w X T L) (fun v:(C7×Bool)×List (Value×Value)×List Value=>v.1.2=true→DoOk w v.1.1 v.2.1 v.2.2) (fun v=>WB b v.1.1 X v.2.1 v.2.2) (fun v=>AV.bool v.1.2):=by
 have hng:=hw.n;have hnw:=hw.now;obtain⟨⟨ha1,ha2⟩,hb1,hb2⟩:=id ha;have hln:=hw.looks.1;have hnL:=i0 (ocs:=C5.ocs) hL;refine C8 func304 rfl ntmps304 rfl ?_;refine R3 ?_;intro b3;refine zC ?_ ?_
 ·intro h20;refine R5 ?_;exact zq97
 intro h20;have hcn:w.Count<1000000:=(by have h9:=hw.count.2;simp at h20;omega);refine zC ?_ ?_
 ·intro h23;refine R1 ?_;refine J3 11 E3 E3 rfl ?_;refine R18 ?_;refine zq155 ?_;refine R11 ?_;exact H8 [1,1,1,1,1,1,1] 1 (nwZ w T L) ((({w with Now:=w.Now+a.At},within a.At 1 20&&decide (w.Now+a.At≤100000)),T,L)) (qz8) rfl B7 (O2 rfl (A5 rfl B7))
 intro h23;refine zC ?_ ?_
 ·intro h47;refine zC ?_ ?_
  ·intro h47;refine zq30 ?_;intro x54 ok54;exact zq50
  intro hz9;rw[h47]at hz9;cases hz9
 intro h47;refine zC ?_ ?_
 ·intro h47;refine zC ?_ ?_
  ·intro h47;refine zq30 ?_;intro x54 ok54;exact zq50
  intro hz9;rw[h47]at hz9;cases hz9
 intro h47;refine zC ?_ ?_
 ·intro h47;refine zC ?_ ?_
  ·intro h47;refine zq30 ?_;intro x54 ok54;exact zq50
  intro hz9;rw[h47]at hz9;cases hz9
 intro h47;refine zC ?_ ?_
 ·intro h47;refine zq30 ?_;intro x54 ok54;exact zq50
 intro h47;refine zC ?_ ?_
 ·intro h55;obtain⟨gi,hgx⟩:∃gi:C1,a.At.toNat<w.Groups.length→w.Groups[a.At.toNat]? =some gi:=⟨(w.Groups[a.At.toNat]?).getD AH4,fun h9=>by rw[Q5 h9];rfl⟩;refine R12 ?_;refine B3 rfl rfl (zG rfl call87 (T7 _ _ _) Ax5) ?_;refine R9 ?_;refine M1 rfl (Y6 rfl rfl rfl) (fun hc=>I4 3 rfl F8 C6 (A7 rfl hc) rfl (A7 rfl hc) (by first|omega|(simp at hc;unfold within at hc;simp at hc;omega)) (by simp only[A8]at*;first|omega|(simp at hc;unfold within at hc;simp at hc;omega))) ?_;refine M1 rfl (Y6 rfl rfl rfl) (fun hc=>O1 3 rfl Y7 rfl E9 (A7 rfl hc) rfl rfl qz106) ?_;refine M1 rfl (Y6 rfl rfl rfl) (fun hc=>Q6 3 rfl (A7 rfl hc) rfl O3 qz106 rfl) ?_;refine zC ?_ ?_
  ·intro h80;refine R5 ?_;exact zq97
  intro h80;have hin:0≤a.At∧a.At.toNat<w.Groups.length:=(by simp only[A8]at h80;have h9:within a.At 0 ((w.Groups.length:Int)-1)=true:=(by simp at h80;exact h80.1);unfold within at h9;rw[F0,H6,H6]at h9;omega);have hx:=hgx hin.2;refine R6 ?_;refine M2 [1,1,1,1,1,1,1] 1 7 (nwZ w T L) (fun zz=>nwZ w T L) rfl rfl rfl rfl call192 rfl rfl (Az8 b w X T L a.At gi hx hin.1 (hw.groups gi (C3 hx))) F3 (fun a=>O4) ?_;intro x84 ok84;refine R6 ?_;exact H8 [0,0,0,0,0,0,0] 1 (nwZ w T L) (((Z7 w a.At.toNat x84,true),T,L)) (qz8) rfl B7 (O2 rfl (A5 rfl B7))
 intro h55;refine zC ?_ ?_
 ·intro h85;refine zC ?_ ?_
  ·intro h85;refine zq53 ?_;intro x91 ok91;exact zq63
  intro hz9;rw[h85]at hz9;cases hz9
 intro h85;refine zC ?_ ?_
 ·intro h85;refine zC ?_ ?_
  ·intro h85;refine zq53 ?_;intro x91 ok91;exact zq63
  intro hz9;rw[h85]at hz9;cases hz9
 intro h85;refine zC ?_ ?_
 ·intro h85;refine zq53 ?_;intro x91 ok91;exact zq63
 intro h85;refine zC ?_ ?_
 ·intro h92;refine R1 ?_;refine J3 14 E3 E3 rfl ?_;refine R9 ?_;refine B3 rfl rfl (zG rfl call87 (T7 _ _ _) Ax5) ?_;refine R5 ?_;refine Am6 rfl rfl (Q3 rfl rfl rfl) ?_ ?_
  ·intro gh108;refine M2 [1,1,1,1,1,1,1] 1 7 (nwZ w T L) (fun zz=>nwZ zz.1.1 T zz.2) rfl rfl rfl rfl call338 rfl rfl (look_own b w X T L a.At hw hq.looks hL (by rw[i0 hL]at gh108;have h9:within a.At 0 ((w.Looks.length:Int)-1)=true:=gh108;unfold within at h9;rw[F0,H6,H6]at h9;omega)) (A2 (A7 rfl gh108) (A2 (A7 rfl gh108) A9)) (fun a=>O4) ?_;intro x108 ok108;refine R4 ?_;exact H8 [0,0,0,0,0,0,0] 1 (nwZ x108.1.1 T x108.2) (((x108.1.1,within a.At 0 ((((L4 C5.ocs w.Looks L).length:Nat):Int)-1)&&x108.1.2),T,x108.2)) (qz8) rfl B7 (O2 rfl (A5 rfl B7))
  intro gh108;refine A1 rfl (Cl6 rfl zA (Bv5 (x:=AV.bool false) gh108)) ?_;refine R3 ?_;exact H8 [1,1,1,1,1,1,1] 1 (nwZ w T L) (((w,within a.At 0 ((((L4 C5.ocs w.Looks L).length:Nat):Int)-1)&&false),T,L)) (qz8) rfl B7 (O2 rfl (A5 rfl B7))
 intro h92;refine R6 ?_;exact zq97
def WA (w:C7)(X:WX)(T:List (Value×Value))(L:List Value):List Go.AV.Own:=
  .arr X.cl 102 1 (w.Clocks.map S6.cs):: .arr X.gr 38 3 (w.Groups.map C1.cs):: .arr X.lo 105 1 (w.Locks.map fun l=>[AV.list 3 (l.map G9.cs)])::
  .arr X.pr 3 1 (w.Promised.map fun n=>[AV.int n]):: .arr X.tx 94 10 (L4 B5.ocs w.Txns T):: .arr X.lk 55 6 (L4 C5.ocs w.Looks L)::
  (nwZ w T L)
def WV (w:C7)(X:WX):List AV:=[AV.int w.Now,AV.int w.Count,AV.is X.cl,strs w.Cuts,AV.is X.gr,AV.is X.lo,AV.is X.pr,AV.is X.tx,AV.is X.lk]
theorem Bs6 (g:C1)(hs:g.size≤1048576):D6 125 [AV.agg g.cs] (AV.agg g.cs):=
  J5 (Aw6 g hs) fun v _=>AO7 (D7 (K2 (i6.2 rfl) G3) AP0)
theorem Bj0 {A:List Go.AV.Own}{l:List C5}{xs:List Value}{p:C5}{x:Value}{i:Nat}(hp:l[i]? =some p)(h:xs.length=i):(C5.ow p x++(A++nin C5.ow (l.take i) xs)).Perm (A++nin C5.ow (l.take (i+1)) (xs++[x])):=
  (List.perm_append_comm_assoc _ _ _).trans ((AV8 (ow:=C5.ow) (x:=x) hp h).append_left _)
theorem Bs7 (w:C7)(hw:WI w):M0 51 [AV.agg w.cs] [] (fun x:WX×List (Value×Value)×List Value=>x.2.1.length=w.Txns.length∧x.2.2.length=w.Looks.length) (fun x=>WA w x.1 x.2.1 x.2.2) (fun x=>AV.agg (WV w x.1)):=by
 have hng:=hw.n;have htl:=hw.txns.1;have hll:=hw.looks.1;have hcl:=hw.clocks.1;have hcu:=hw.cuts.1;have hpr:=hw.promised.1;have hlo:=hw.locks.1;refine C8 func51 rfl ntmps51 rfl ?_;refine R3 ?_;intro b1;refine R1 ?_;intro b2;refine R2 ?_;refine Co4 [(1,_),(2,_)] A6 (fun (b3:Nat) (cv:Value) (pv:Value)=>[.box b3 32 [AV.int w.Now,AV.int w.Count,AV.is cv,strs w.Cuts,AV.nils,AV.nils,AV.is pv,AV.nils,AV.nils],.box b1 32 w.cs,.box b2 32 (List.map m7 (Value.agg #[Value.int IntKind.i64 0,Value.int IntKind.i64 0,E6,E6,E6,E6,E6,E6,E6]).cells.toList),.arr cv 102 1 (w.Clocks.map S6.cs),.arr pv 3 1 (w.Promised.map fun n=>[AV.int n])]) (fun (b3:Nat) (cv:Value) (pv:Value)=>[(3,AV.ptr b3 0)]) ?_ ?_
 ·skip
  refine zL [1] ?_;refine Z9 _ 16 (.pure 0 (.pure 1 (.pure 2 (.pure 3 (.pure 5 (.pure 6 (.pure 8 (.pure 9 (.pure 11 (.pure 12 (.e2 4 (.e2 7 (.pure 10 (.e2 13 (.pure 14 (.e1 15 .nil)) 15 (.e1 13 (.pure 14 .nil)))) 15 (.e1 7 (.pure 10 (.e1 13 (.pure 14 .nil))))) 15 (.e1 4 (.e1 7 (.pure 10 (.e1 13 (.pure 14 .nil)))))))))))))))) E3 E3 rfl (U8 1) ?_;refine R10 ?_;refine AR7 ?_ ?_
  ·refine zq187 ?_;intro v14 _;refine AR7 ?_ ?_
   ·refine zq208 ?_;intro v17_1 hone_v17_1;have one_v17_1:=hone_v17_1.2;refine zq51 ?_;refine AR7 ?_ ?_
    ·refine F7 rfl rfl rfl (J2 3 (fun _=>rfl) (S9 [] rfl call124 rfl (AU7 w.Promised qz7) G6 rfl)) (fun a _=>qz3) ?_;intro x23 ok23;have one_x23:=ok23.2
     replace ok23:=ok23.1
     refine zq9 ?_;refine R1 ?_;refine zq2 ?_;intro b3 _;refine R3 ?_;exact⟨b3,v17_1,x23,Le.trans (B4 [4,0,0,0,0] rfl) (D5 0 B7 A6)⟩
    refine zq2 ?_;intro b3 _;refine R1 ?_;refine zq98 ?_;intro x23 ok23;have one_x23:=ok23.2
    replace ok23:=ok23.1
    refine zq9 ?_;refine R3 ?_;exact⟨b3,v17_1,x23,Le.trans (B4 [3,0,0,0,0] rfl) (D5 0 B7 A6)⟩
   refine zq2 ?_;intro b3 _;refine R1 ?_;refine zq208 ?_;intro v17_2 hone_v17_2;have one_v17_2:=hone_v17_2.2;refine zq51 ?_;refine R1 ?_;refine zq98 ?_;intro x23 ok23;have one_x23:=ok23.2
   replace ok23:=ok23.1
   refine zq69 ?_;refine R3 ?_;exact⟨b3,v17_2,x23,Le.trans (B4 [3,0,0,0,0] rfl) (D5 0 B7 A6)⟩
  refine zq2 ?_;intro b3 _;refine R1 ?_;refine zq187 ?_;intro v14 _;refine R1 ?_;refine F7 rfl rfl rfl (J2 3 (fun _=>rfl) (N3 (by':=8) 3 rfl J0 type102 rfl rfl rfl rfl rfl rfl zA zA rfl qz1)) (fun a _=>qz3) ?_;intro v17_3 hone_v17_3;have one_v17_3:=hone_v17_3.2;refine zq51 ?_;refine R1 ?_;refine zq98 ?_;intro x23 ok23;have one_x23:=ok23.2
  replace ok23:=ok23.1
  refine zq68 ?_;refine R3 ?_;exact⟨b3,v17_3,x23,Le.trans (B4 [2,0,0,0,0] rfl) (D5 0 B7 A6)⟩
 intro b3 cv pv;refine R9 ?_;refine X5 38 3 ?_;refine X5 105 1 ?_;refine zL [2,1,0] ?_;refine W1 [(1,_),(2,_),(3,_),(26,_),(27,_)] _ (fun (i:Nat) (gv:Value) (lv:Value)=>i≤w.Groups.length) (fun i gv lv=>[.box b3 32 [AV.int w.Now,AV.int w.Count,AV.is cv,strs w.Cuts,AV.is gv,AV.is lv,AV.is pv,AV.nils,AV.nils],.arr gv 38 3 ((w.Groups.take i).map C1.cs),.arr lv 105 1 ((w.Locks.take i).map fun l=>[AV.list 3 (l.map G9.cs)])]) (fun i gv lv=>[(28,AV.int i)]) (fun i gv lv=>w.Groups.length-i) (0) (E6) (E6) ?_ (I1 B7 A6) ?_
 ·exact E4 _
 intro i gv lv hinv;refine zK ?_ ?_
 ·intro h29 k29;have hlt:i<w.Groups.length:=(by simpa using h29);obtain⟨g,hg⟩:=B2 hlt;have hgs:=BE1 (hw.groups g (C3 hg)).good;obtain⟨k,hk⟩:=B2 (show i<w.Locks.length by omega);have hk60:=(hw.locks.2 k (C3 hk)).1;refine R6 ?_;refine zq101 ?_;intro b5;refine R4 ?_;refine H3 qz9 ?_;refine zL [1,0] ?_;refine zq138 ?_;intro v38_4;refine R1 ?_;refine O7 2 rfl fun one_v38_4=> ?_;refine zq152 ?_;intro v42 _;refine U2 rfl rfl rfl (Af7 [8] (fun _=>rfl) (fun _=>K2 (C3 (i:=0) rfl) G3) (fun _=>M6) (N3 (by':=32) 8 rfl V2 type175 rfl rfl rfl rfl rfl rfl zA zA rfl qz1)) (fun a _=>qz3) ?_;intro v48_5 _;refine R1 ?_;refine U2 rfl rfl rfl (N3 (by':=24) 4 rfl K1 type105 rfl rfl rfl rfl rfl rfl zA zA rfl qz1) (fun a _=>qz3) ?_;intro v50_6 _;refine R2 ?_;refine O7 4 rfl fun one_v50_6=> ?_;refine N2 0 rfl rfl rfl zA zA (F6 one_v50_6) rfl sizeOf27 rfl ?_;refine zq139 ?_;refine R4 ?_;refine Q8 i gv lv (i+1) (v38_4) (v50_6) ?_ ?_ (Le.trans (B4 [2,0,1,1] rfl) (D5 1 (by (rw[X3,hg,Y3,X3,hk,Y3];rfl)) A6))
  ·exact qz7
  omega
 intro h29 k29;have hge:w.Groups.length≤i:=(by simpa using h29);rw[show w.Groups.take i=w.Groups from S7 qz7,show w.Locks.take i=w.Locks from S7 qz7];refine R10 ?_;refine X5 94 10 ?_;refine zL [1,4,3,3,3,1,1,0] ?_;refine W1 [(1,_),(2,_),(3,_),(54,_),(55,_)] [] (fun (j:Nat) (tv:Value) (T:List (Value×Value))=>j≤w.Txns.length∧T.length=j) (fun j tv T=>[.box b3 32 [AV.int w.Now,AV.int w.Count,AV.is cv,strs w.Cuts,AV.is gv,AV.is lv,AV.is pv,AV.is tv,AV.nils],.box b2 32 (List.map m7 (Value.agg #[Value.int IntKind.i64 0,Value.int IntKind.i64 0,E6,E6,E6,E6,E6,E6,E6]).cells.toList),.box b1 32 w.cs,.arr cv 102 1 (w.Clocks.map S6.cs),.arr pv 3 1 (w.Promised.map fun n=>[AV.int n]),.arr gv 38 3 (w.Groups.map C1.cs),.arr lv 105 1 (w.Locks.map fun l=>[AV.list 3 (l.map G9.cs)]),.arr tv 94 10 (L4 B5.ocs (w.Txns.take j) T)]++(nin B5.ow (w.Txns.take j) T)) (fun j tv T=>[(56,AV.int j)]) (fun j tv T=>w.Txns.length-j) (0) (E6) ([]) ?_ (I1 B7 A6) ?_
 ·exact zq4
 intro j tv T hinv;refine H3 (T2 _) ?_;refine zK ?_ ?_
 ·intro h57 k57;have hltj:j<w.Txns.length:=(by simpa using h57);obtain⟨t,ht⟩:=B2 hltj;have htk:=hw.txns.2 t (C3 ht);have hol:=htk.sb.len;have hgl:=htk.got.1;have htm:=htk.terms;refine R5 ?_;refine zq156 ?_;intro b7;refine R4 ?_;refine S3 rfl rfl rfl rfl U6 Z1 ?_;intro v60;refine R2 ?_;refine I0 (by':=48) 0 rfl rfl rfl rfl U6 type92 rfl rfl rfl rfl rfl rfl zA zA rfl qz1 ?_;intro v63_7;refine R1 ?_;refine O7 0 rfl fun one_v63_7=> ?_;refine N2 1 rfl rfl rfl zA zA (F6 one_v63_7) rfl AR0 rfl ?_;refine R2 ?_;refine AWP.le (Am7 [0] 0 (.box b7 94 t.cs) rfl rfl ⟨rfl,rfl,(D7 (K2 (C3 (i:=0) rfl) G3) (D7 H9 (D7 H9 (D7 H9 (D7 H9 (D7 H9 (D7 H9 (D7 H9 (D7 H9 (D7 H9 Z6))))))))))⟩ M6) ?_;refine H3 qz9 ?_;refine R1 ?_;refine S3 rfl rfl rfl rfl N1 W7 ?_;intro v65;refine R2 ?_;refine zq85 ?_;intro v68_8;refine R1 ?_;refine O7 0 rfl fun one_v68_8=> ?_;refine zq194 ?_;intro x72 ok72;refine R1 ?_;refine O7 0 rfl fun one_x72=> ?_;refine N2 2 rfl rfl rfl zA zA (F6 one_x72) rfl Ae3 rfl ?_;refine zq139 ?_;refine R5 ?_;refine I0 (by':=112) 10 rfl rfl rfl rfl M4 type94 rfl rfl rfl rfl rfl rfl zA zA rfl BK6 ?_;intro v78_9;refine R1 ?_;refine O7 10 rfl fun one_v78_9=> ?_;refine N2 3 rfl rfl rfl zA zA (F6 one_v78_9) rfl AW2 rfl ?_;refine zq139 ?_;refine zL [2,2,2,2,2,2,2,2,2,1,0] ?_;refine AWP.le (U1 9 (t:=nin B5.ow (w.Txns.take (j+1)) (T++[(v68_8,x72)])) (AV8 (ow:=B5.ow) (x:=(v68_8,x72)) ht hinv.2)) ?_;refine R4 ?_;refine Q8 j tv T (j+1) (v78_9) (T++[(v68_8,x72)]) ?_ ?_ (Le.trans (B4 [0,0,0,0,0,0,0,0,0] rfl) (D5 1 (Eq.trans qz223 (T2 _).symm) A6))
  ·exact⟨by omega,by rw[I2,hinv.2];rfl⟩
  omega
 intro h57 k57;have hxT:T.length=w.Txns.length:=(by have h9:w.Txns.length≤j:=(by simpa using h57);omega);rw[show w.Txns.take j=w.Txns from S7 qz7];refine R10 ?_;refine X5 55 6 ?_;refine zL [1,1,1,1,1,1,1,1,0] ?_;refine W1 [(2,_),(3,_),(82,_),(83,_)] [] (fun (m:Nat) (kv:Value) (L:List Value)=>m≤w.Looks.length∧L.length=m) (fun m kv L=>[.box b3 32 [AV.int w.Now,AV.int w.Count,AV.is cv,strs w.Cuts,AV.is gv,AV.is lv,AV.is pv,AV.is tv,AV.is kv],.box b2 32 (List.map m7 (Value.agg #[Value.int IntKind.i64 0,Value.int IntKind.i64 0,E6,E6,E6,E6,E6,E6,E6]).cells.toList),.box b1 32 w.cs,.arr cv 102 1 (w.Clocks.map S6.cs),.arr pv 3 1 (w.Promised.map fun n=>[AV.int n]),.arr gv 38 3 (w.Groups.map C1.cs),.arr lv 105 1 (w.Locks.map fun l=>[AV.list 3 (l.map G9.cs)]),.arr tv 94 10 (L4 B5.ocs w.Txns T),.arr kv 55 6 (L4 C5.ocs (w.Looks.take m) L)]++(nin B5.ow w.Txns T++nin C5.ow (w.Looks.take m) L)) (fun m kv L=>[(84,AV.int m)]) (fun m kv L=>w.Looks.length-m) (0) (E6) ([]) ?_ (I1 qz180 A6) ?_
 ·exact zq4
 intro m kv L hinv;refine H3 (T2 _) ?_;refine zK ?_ ?_
 ·intro h85 k85;have hltm:m<w.Looks.length:=(by simpa using h85);obtain⟨q,hk9⟩:=B2 hltm;have hqk:=hw.looks.2 q (C3 hk9);have hqg:=hqk.got.1;have hqn:=hqk.keys.1;refine R5 ?_;refine A1 rfl (C2 rfl j8 AJ8 zA zA hk9 qz1) ?_;refine R2 ?_;intro b9;refine R6 ?_;refine zF rfl call48 (AH0 _ qz7) (A2 (A0 rfl) A9) ?_;refine R5 ?_;refine S3 rfl rfl rfl rfl N1 W7 ?_;intro v92;refine R2 ?_;refine zq85 ?_;intro v95_10;refine R1 ?_;refine O7 0 rfl fun one_v95_10=> ?_;refine N2 1 rfl rfl rfl zA zA (F6 one_v95_10) rfl Y5 rfl ?_;refine zq139 ?_;refine R5 ?_;refine I0 (by':=80) 10 rfl rfl rfl rfl j8 type55 rfl rfl rfl rfl rfl rfl zA zA rfl BK6 ?_;intro v101_11;refine R1 ?_;refine O7 10 rfl fun one_v101_11=> ?_;refine N2 2 rfl rfl rfl zA zA (F6 one_v101_11) rfl sizeOf30 rfl ?_;refine zq139 ?_;refine zL [1,1,1,1,1,1,1,1,1,1,0] ?_;refine AWP.le (U1 10 (t:=nin B5.ow w.Txns T++nin C5.ow (w.Looks.take (m+1)) (L++[v95_10])) (Bj0 (x:=v95_10) hk9 hinv.2)) ?_;refine R4 ?_;refine Q8 m kv L (m+1) (v101_11) (L++[v95_10]) ?_ ?_ (Le.trans (B4 [0,0,0,0,0,0,0,0,0,0] rfl) (D5 1 (Eq.trans (by (rw[←AP5 (ocs:=C5.ocs) (x:=v95_10) hk9 hinv.2];rfl)) (T2 _).symm) A6))
  ·exact⟨by omega,by rw[I2,hinv.2];rfl⟩
  omega
 intro h85 k85;have hxL:L.length=w.Looks.length:=(by have h9:w.Looks.length≤m:=(by simpa using h85);omega);rw[show w.Looks.take m=w.Looks from S7 qz7];refine R7 ?_;exact H8 [3,4,4,3,3,3] 3 (nwZ w T L) ((⟨cv,gv,lv,pv,tv,kv⟩,T,L)) (⟨hxT,hxL⟩) rfl B7 (O2 rfl (F5 (ys:=_) 1 rfl rfl V5 P4 rfl))
theorem Bj1 {own:List Go.AV.Own}{w:C7}{X:WX}{T:List (Value×Value)}{L:List Value}(hT:T.length=w.Txns.length)(hL:L.length=w.Looks.length)(h:∀o∈WA w X T L,o∈own):AJ1 own (WV w X) w.cs:=
  D7 H9 (D7 H9 (D7 (K2 (h _ (C3 (i:=0) rfl)) G3) (D7 H9 (D7 (K2 (h _ (C3 (i:=1) rfl)) G3) (D7 (K2 (h _ (C3 (i:=2) rfl)) G3) (D7 (K2 (h _ (C3 (i:=3) rfl)) G3)
    (D7 (K2 (h _ (C3 (i:=4) rfl)) (Aw0 B5.lcM hT fun o ho=>h o (by unfold WA;exact U5 _ (U5 _ (U5 _ (U5 _ (U5 _ (U5 _ (AM4 _ ho)))))))))
    (D7 (K2 (h _ (C3 (i:=5) rfl)) (Aw0 C5.lcM hL fun o ho=>h o (by unfold WA;exact U5 _ (U5 _ (U5 _ (U5 _ (U5 _ (U5 _ (AD7 _ ho))))))))) Z6))))))))
theorem CV3 (w:C7)(hw:WI w):D6 51 [AV.agg w.cs] (AV.agg w.cs):=
  J5 (Bs7 w hw) fun x hx=>AO7 (Bj1 hx.1 hx.2 fun _ ho=>ho)
end Go.PQ