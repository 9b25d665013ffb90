/- Texts of the claim, part 12. -/
import Derived.Test.YtddgbffjgkkgiaaGreatDoorZSound11
set_option linter.defProp false
set_option linter.unusedVariables false
set_option linter.unusedSimpArgs false
set_option maxRecDepth 100000
set_option maxHeartbeats 4000000
namespace Go.Proofs.YtddgbffjgkkgiaaGreatDoor
open Go.PQ
open Go Go.AV Go.M
attribute [local irreducible] OpW OpA OpS AWP J6 L6 K3 OpE K4 I5 L0 Le Ev G4 L9 Y8 Int.tmod Int.tdiv IntKind.wrap T3
def Cm7 :List (List Str):=[[[109]],[[99]],[],[[98],[110]]]
theorem Cz6 {l:List Str}(h:l∈Cm7):AB2 l=true∧l.length≤2∧∀k∈l,k.length≤12:=by
  have:∀l∈Cm7,AB2 l=true∧l.length≤2∧∀k∈l,k.length≤12:=by decide
  exact this l h
theorem CN7 (b:Nat)(code:List Int)(hcode:AJ3 code)(c:w6)(hp:c.p≤2000000):M0 204 [AV.ptr b 0] [.box b 77 (q8 code c)] (fun x:w6×C7=>x.1.p≤c.p+700∧WI x.2∧WQ x.2) (fun x=>[.box b 77 (q8 code x.1)]) (fun x=>AV.agg x.2.cs):=by
 refine C8 Tryz.func204 rfl Tryz.ntmps204 rfl ?_;refine R3 ?_;intro b2;refine R2 ?_;refine Z9 _ 19 (.pure 0 (.pure 1 (.pure 2 (.pure 3 (.pure 4 (.pure 5 (.pure 9 (.pure 11 (.e2 6 (.pure 7 (.pure 8 (.e2 10 (.e2 12 (.e2 13 (.pure 14 (.pure 15 (.pure 16 (.e1 17 (.e1 18 .nil))))) 17 (.e1 13 (.pure 14 (.pure 15 (.pure 16 (.e1 18 .nil)))))) 17 (.e1 12 (.e1 13 (.pure 14 (.pure 15 (.pure 16 (.e1 18 .nil))))))) 17 (.e1 10 (.e1 12 (.e1 13 (.pure 14 (.pure 15 (.pure 16 (.e1 18 .nil)))))))))) 17 (.e1 6 (.pure 7 (.pure 8 (.e1 10 (.e1 12 (.e1 13 (.pure 14 (.pure 15 (.pure 16 (.e1 18 .nil))))))))))))))))))) E3 E3 rfl (U8 1) ?_;refine N8 rfl rfl rfl (fun ext=>AL3 rfl E2 I6 Tryz.zeroValue9 rfl rfl rfl rfl (B6 (O9 (l:=[109]) rfl) (j4 _) N6) rfl rfl) ?_;refine N8 rfl rfl rfl (fun ext=>AL3 rfl E2 I6 Tryz.zeroValue9 rfl rfl rfl rfl (B6 (O9 (l:=[99]) rfl) (j4 _) N6) rfl rfl) ?_;refine R1 ?_;refine N8 rfl rfl rfl (fun ext=>AL3 rfl E2 I6 Tryz.zeroValue9 rfl rfl rfl rfl (B6 (O9 (l:=[98]) rfl) (j4 _) (B6 (O9 (l:=[110]) rfl) (j4 _) N6)) rfl rfl) ?_;refine R4 ?_;refine AR7 ?_ ?_
 ·refine F7 rfl rfl rfl (S9 [1] rfl Tryz.call32 rfl (V4 _ _ hcode _ _ qz7 qz7) (A2 (A0 rfl) (A2 L1 A9)) rfl) (fun a _=>qz3) ?_;intro x12 ok12;obtain⟨cu,hcu⟩:=B2 (show x12.2.toNat<Cm7.length from(show x12.2.toNat<4 by omega));have hco:=Cz6 (C3 hcu);refine N8 rfl rfl rfl (fun ext=>AX5 rfl AD2 AA0 (A0 rfl) (A0 rfl) qz7 (S2 (f:=fun l:List Str=>[strs l]) hcu)) ?_;refine R1 ?_;refine AR7 ?_ ?_
  ·refine F7 rfl rfl rfl (S9 [1] rfl Tryz.call30 rfl (Av4 _ _ hcode _ qz7) (A2 (A0 rfl) A9) rfl) (fun a _=>qz3) ?_;intro x16 ok16;refine AR7 ?_ ?_
   ·refine F7 rfl rfl rfl (S9 [1] rfl Tryz.call33 rfl (AP1 _ _ hcode _ qz7) (A2 (A0 rfl) A9) rfl) (fun a _=>qz3) ?_;intro x18 ok18;refine AR7 ?_ ?_
    ·refine F7 rfl rfl rfl (S9 [] rfl Tryz.call12 rfl (Ao2 cu x16.2 x18.2 ⟨hco,⟨by omega,fun p hp=>(ok16.2.2 p hp).1⟩,⟨ok18.2.1,ok18.2.2⟩⟩ fun p hp=>(ok16.2.2 p hp).2) AD5 rfl) (fun a _=>qz3) ?_;intro x19 ok19;refine R4 ?_;refine F7 rfl rfl rfl (S4 rfl Tryz.zeroValue32 rfl) (fun a _=>qz3) ?_;intro b3 _;refine R1 ?_;refine AZ3 rfl rfl rfl (AB5 2 rfl rfl (A0 rfl) (A0 rfl) (e6 _) rfl P4 rfl) (fun a _=>qz3) ?_;intro _ _;refine R9 ?_
     (refine I9 [1] ((_,x19)) ?_ rfl z8 (O2 rfl (F5 (ys:=_) 0 rfl rfl V5 P4 rfl));exact⟨by dsimp only;omega,ok19⟩)
    refine F7 rfl rfl rfl (S4 rfl Tryz.zeroValue32 rfl) (fun a _=>qz3) ?_;intro b3 _;refine R1 ?_;refine F7 rfl rfl rfl (S9 [] rfl Tryz.call12 rfl (Ao2 cu x16.2 x18.2 ⟨hco,⟨by omega,fun p hp=>(ok16.2.2 p hp).1⟩,⟨ok18.2.1,ok18.2.2⟩⟩ fun p hp=>(ok16.2.2 p hp).2) AD5 rfl) (fun a _=>qz3) ?_;intro x19 ok19;refine R4 ?_;refine AZ3 rfl rfl rfl (AB5 2 rfl rfl (A0 rfl) (A0 rfl) (e6 _) rfl P4 rfl) (fun a _=>qz3) ?_;intro _ _;refine R9 ?_
    (refine I9 [1] ((_,x19)) ?_ rfl z8 (O2 rfl (F5 (ys:=_) 0 rfl rfl V5 P4 rfl));exact⟨by dsimp only;omega,ok19⟩)
   refine F7 rfl rfl rfl (S4 rfl Tryz.zeroValue32 rfl) (fun a _=>qz3) ?_;intro b3 _;refine R1 ?_;refine F7 rfl rfl rfl (S9 [1] rfl Tryz.call33 rfl (AP1 _ _ hcode _ qz7) (A2 (A0 rfl) A9) rfl) (fun a _=>qz3) ?_;intro x18 ok18;refine R1 ?_;refine F7 rfl rfl rfl (S9 [] rfl Tryz.call12 rfl (Ao2 cu x16.2 x18.2 ⟨hco,⟨by omega,fun p hp=>(ok16.2.2 p hp).1⟩,⟨ok18.2.1,ok18.2.2⟩⟩ fun p hp=>(ok16.2.2 p hp).2) AD5 rfl) (fun a _=>qz3) ?_;intro x19 ok19;refine R4 ?_;refine AZ3 rfl rfl rfl (AB5 1 rfl rfl (A0 rfl) (A0 rfl) (e6 _) rfl P4 rfl) (fun a _=>qz3) ?_;intro _ _;refine R9 ?_
   (refine I9 [2] ((_,x19)) ?_ rfl z8 (O2 rfl (F5 (ys:=_) 0 rfl rfl V5 P4 rfl));exact⟨by dsimp only;omega,ok19⟩)
  refine F7 rfl rfl rfl (S4 rfl Tryz.zeroValue32 rfl) (fun a _=>qz3) ?_;intro b3 _;refine R1 ?_;refine F7 rfl rfl rfl (S9 [1] rfl Tryz.call30 rfl (Av4 _ _ hcode _ qz7) (A2 (A0 rfl) A9) rfl) (fun a _=>qz3) ?_;intro x16 ok16;refine R1 ?_;refine F7 rfl rfl rfl (S9 [2] rfl Tryz.call33 rfl (AP1 _ _ hcode _ qz7) (A2 (A0 rfl) A9) rfl) (fun a _=>qz3) ?_;intro x18 ok18;refine R1 ?_;refine F7 rfl rfl rfl (S9 [] rfl Tryz.call12 rfl (Ao2 cu x16.2 x18.2 ⟨hco,⟨by omega,fun p hp=>(ok16.2.2 p hp).1⟩,⟨ok18.2.1,ok18.2.2⟩⟩ fun p hp=>(ok16.2.2 p hp).2) AD5 rfl) (fun a _=>qz3) ?_;intro x19 ok19;refine R4 ?_;refine AZ3 rfl rfl rfl (AB5 1 rfl rfl (A0 rfl) (A0 rfl) (e6 _) rfl P4 rfl) (fun a _=>qz3) ?_;intro _ _;refine R9 ?_
  (refine I9 [2] ((_,x19)) ?_ rfl z8 (O2 rfl (F5 (ys:=_) 0 rfl rfl V5 P4 rfl));exact⟨by dsimp only;omega,ok19⟩)
 refine F7 rfl rfl rfl (S4 rfl Tryz.zeroValue32 rfl) (fun a _=>qz3) ?_;intro b3 _;refine R1 ?_;refine F7 rfl rfl rfl (S9 [1] rfl Tryz.call32 rfl (V4 _ _ hcode _ _ qz7 qz7) (A2 (A0 rfl) (A2 L1 A9)) rfl) (fun a _=>qz3) ?_;intro x12 ok12;obtain⟨cu,hcu⟩:=B2 (show x12.2.toNat<Cm7.length from(show x12.2.toNat<4 by omega));have hco:=Cz6 (C3 hcu);refine N8 rfl rfl rfl (fun ext=>AX5 rfl AD2 AA0 (A0 rfl) (A0 rfl) qz7 (S2 (f:=fun l:List Str=>[strs l]) hcu)) ?_;refine R2 ?_;refine F7 rfl rfl rfl (S9 [2] rfl Tryz.call30 rfl (Av4 _ _ hcode _ qz7) (A2 (A0 rfl) A9) rfl) (fun a _=>qz3) ?_;intro x16 ok16;refine R1 ?_;refine F7 rfl rfl rfl (S9 [2] rfl Tryz.call33 rfl (AP1 _ _ hcode _ qz7) (A2 (A0 rfl) A9) rfl) (fun a _=>qz3) ?_;intro x18 ok18;refine R1 ?_;refine F7 rfl rfl rfl (S9 [] rfl Tryz.call12 rfl (Ao2 cu x16.2 x18.2 ⟨hco,⟨by omega,fun p hp=>(ok16.2.2 p hp).1⟩,⟨ok18.2.1,ok18.2.2⟩⟩ fun p hp=>(ok16.2.2 p hp).2) AD5 rfl) (fun a _=>qz3) ?_;intro x19 ok19;refine R4 ?_;refine AZ3 rfl rfl rfl (AB5 1 rfl rfl (A0 rfl) (A0 rfl) (e6 _) rfl P4 rfl) (fun a _=>qz3) ?_;intro _ _;refine R9 ?_
 (refine I9 [2] ((_,x19)) ?_ rfl z8 (O2 rfl (F5 (ys:=_) 0 rfl rfl V5 P4 rfl));exact⟨by dsimp only;omega,ok19⟩)
end Go.Proofs.YtddgbffjgkkgiaaGreatDoor
namespace Go.M
open Go.AV
theorem wz_of {w:C7}(h:WI w):WZ w where
  groups:=⟨h.n.2,fun g hg=>⟨by have:=BE1 (h.groups g hg).good;omega,(h.groups g hg).keys⟩⟩
  cuts:=⟨by have:=h.cuts.1;have:=h.n;omega,h.cuts.2⟩
  clocks:=by have:=h.clocks.1;have:=h.n;omega
  locks:=⟨by have:=h.locks.1;have:=h.n;omega,fun l hl=>by
    have h1:=h.locks.2 l hl;have h2:=AE5 (f:=G9.size) (c:=64) (l:=l) fun x hx=>(h1.2 x hx).2;have h3:l.length*(64+1)≤60*65:=AD0 _ h1.1;omega⟩
  promised:=by have:=h.promised.1;have:=h.n;omega
  txns:=⟨h.txns.1,fun t ht=>by
    have h1:=h.txns.2 t ht;have h2:=AE5 (f:=TOp.size) (c:=36) (l:=t.Ops) fun o ho=>(AT6 h1.ops.1 o ho).size;have h3:t.Ops.length≤8:=by have h9:=h1.ops.1;unfold n8 at h9;rw[F0,H6]at h9;have:=h9.1;omega
    have h5:=AE5 (f:=H7.size) (c:=64) (l:=t.Got) h1.got.2;have h6:t.Got.length*(64+1)≤8*65:=AD0 _ h1.got.1;exact⟨by omega,by omega⟩⟩
  looks:=⟨h.looks.1,fun l hl=>by
    have h1:=h.looks.2 l hl;have h5:=AE5 (f:=H7.size) (c:=64) (l:=l.Got) h1.got.2;have h6:l.Got.length*(64+1)≤8*65:=AD0 _ (by have:=h1.got.1;have:=h1.keys.1;omega);exact⟨h1.keys.2,by omega⟩⟩
  ends:=⟨fun t ht=>(h.txns.2 t ht).span.2.imp id fun h=>h.2.1,fun l hl=>(h.looks.2 l hl).span.2.imp id fun h=>h.2.1⟩
theorem Bt3 {w:C7}(z:WZ w)(n:Int):WZ {w with Now:=n}:=⟨z.groups,z.cuts,z.clocks,z.locks,z.promised,z.txns,z.looks,z.ends⟩
theorem BT5 {w:C7}(z:WZ w)(i:Nat)(c:S6):WZ {w with Clocks:=w.Clocks.set i c}:=⟨z.groups,z.cuts,by show (w.Clocks.set i c).length≤9;rw[a9];exact z.clocks,z.locks,z.promised,z.txns,z.looks,z.ends⟩
theorem Bd1 {w:C7}(z:WZ w){i:Nat}{g:C1}(hg:w.Groups[i]? =some g)(n:Int):WZ {w with Groups:=w.Groups.set i {g with Lead:=n}}:=
  ⟨⟨by show (w.Groups.set i _).length≤3;rw[a9];exact z.groups.1,An5 z.groups.2 (z.groups.2 g (C3 hg))⟩,z.cuts,z.clocks,z.locks,z.promised,z.txns,z.looks,z.ends⟩
theorem BT6 {w:C7}(z:WZ w):WZ {w with Locks:=[]}:=⟨z.groups,z.cuts,z.clocks,⟨E4 _,fun l hl=>by cases hl⟩,z.promised,z.txns,z.looks,z.ends⟩
def Cm8 :List (List Str):=[[[109]],[[99]],[],[[98],[110]],[[97],[98],[99]]]
theorem Cz7 {l:List Str}(h:l∈Cm8):AB2 l=true∧l.length≤3∧∀k∈l,k.length≤12:=by
  have:∀l∈Cm8,AB2 l=true∧l.length≤3∧∀k∈l,k.length≤12:=by decide
  exact this l h
structure At0 (cuts:List Str)(ps:List (List TOp))(ls:List (List Str)):Prop where
  cuts:AB2 cuts=true∧cuts.length≤3∧∀k∈cuts,k.length≤12
  ps:ps.length≤5∧∀p∈ps,n8 p=true∧∀o∈p,o.Key∈AI5
  ls:ls.length≤4∧∀l∈ls,(1≤l.length∧l.length≤8)∧AP2 l∧∀k∈l,k∈AI5
theorem At0.two {cuts:List Str}{ps:List (List TOp)}{ls:List (List Str)}(h:At0 cuts ps ls)(h3:¬2<cuts.length):BC1 cuts ps ls:=⟨⟨h.cuts.1,by omega,h.cuts.2.2⟩,h.ps,h.ls⟩
def BL9 (cuts:List Str)(ps:List (List TOp))(ls:List (List Str)):C7×Bool:=if 2<cuts.length then (Af0,false)else nWR cuts ps ls
theorem Dg8 {cuts:List Str}{t:B5}(h3:((P2 t.Ops t.Got).1==3)=true)(h:AK5 t=false):U7 cuts t=[]:=by
  unfold AK5 at h;rw[h3,Bool.true_and,AB8]at h;have hr:i9 t.Got=[]:=Ak2 qz7;have hw:(P2 t.Ops t.Got).2.2=[]:=Ak2 qz7;have k1:=Az7 cuts (AI4 (i9 t.Got++O8 (P2 t.Ops t.Got).2.2));have k2:=Af9 (i9 t.Got++O8 (P2 t.Ops t.Got).2.2);rw[hr,hw]at k1 k2;unfold U7;rw[hr,hw];exact Ak2 (Nat.le_zero.1 (L7 k1 k2))
theorem DW8 {w:C7}{ss:List E1}{k:Nat}{t:B5}{cuts:List Str}:Aa8 w ss k t (U7 cuts t) ((P2 t.Ops t.Got).1==3)=Aa8 w ss k t (U7 cuts t) (AK5 t):=by
  cases h3:(P2 t.Ops t.Got).1==3 with
  |false=>rw[show AK5 t=false by unfold AK5;rw[h3,Bool.false_and]]
  | true=>
    cases hk:AK5 t with
    |true=>rfl
    | false=>
      rw[Dg8 h3 hk];unfold Aa8;rw[show Av5 ss ((k:Int)+1) []=true from rfl];simp
theorem Dg9 {w:C7}{l:C5}(h:o4 w l=true):AN2 l.Got=true:=by
  unfold o4 at h;simp only[F0]at h;exact h.1.1.1.1.2
theorem Dh0 {w:C7} (z:WZ w):AS3 w=BF4 w:=by
  unfold AS3 BF4
  cases hg:Z4 w with
  |false=>rfl
  | true=>
    obtain⟨ws1,ws2,ws3,ws4⟩:=Go.PQ.world_states z hg;have gw:=Az0 hg;rw[D9 rfl,D9 rfl];have h1:w.Groups.all Ac7=w.Groups.all Aq5:=Az1 fun g _=>safe_eq g;have h2:(List.range w.Txns.length).all (BC2 w)=(List.range w.Txns.length).all (BP9 w):=Az1 fun k hk=>by
      unfold BC2 BP9
      cases ht:w.Txns[k]? with
      |none=>rfl
      | some t=>
        have hgt:=gw.txns.2 t (C3 ht);exact DW8.trans (sound_eq ws2 (Bp6 (Bw7 hgt).2.2) fun h=>by obtain⟨p,hp⟩:=BW8 (cuts:=w.Cuts) h;exact(G1.1 hp).1)
    have h3:(w.Looks.all fun l=>decide (r6 w.Cuts (O6 w) l.Got l.Time=l.Got))=w.Looks.all fun l=>Ac6 w.Cuts (O6 w) l.Got l.Time:=Az1 fun l hl=>Bh9 ws2 (Bp6 (Dg9 (gw.looks.2 l hl)));rw[h1,h2,h3]
theorem DI2 {w:C7}(h:((AS3 w).2&&(AS3 w).1)=true):Z4 w=true∧(∀g∈w.Groups,Ac7 g=true)∧∀l∈w.Looks,decide (r6 w.Cuts (O6 w) l.Got l.Time=l.Got)=true:=by
  unfold AS3 at h
  cases hg:Z4 w with
  |false=>rw[hg]at h;cases h
  | true=>
    rw[hg,D9 rfl]at h;simp only[Bool.true_and,F0,V7]at h;exact⟨rfl,h.1.1,h.2⟩
theorem DW9 {w:C7}(hg:Z4 w=true)(h1:∀g∈w.Groups,Ac7 g=true)(h2:∀k,BC2 w k=true)(h3:∀l∈w.Looks,decide (r6 w.Cuts (O6 w) l.Got l.Time=l.Got)=true):AS3 w=(true,true):=by
  unfold AS3;rw[D9 hg,V7.2 h1,V7.2 fun k _=>h2 k,V7.2 h3];rfl
theorem CA7 {t:B5}(cuts:List Str){w:C7}(h:AA4 w t=true):D2 B1.size (P2 t.Ops t.Got).2.2≤300000∧(U7 cuts t).length≤1000000:=by
  have h1:n8 t.Ops=true:=by
    have h2:=h;unfold AA4 at h2;simp only[F0]at h2;exact h2.1.1.1.1.1.1.1
  have h9:=Cb0 (got:=t.Got) h1;rw[At3]at h9;unfold Ac1 at h9;simp only[F0,V7,H6]at h9;have h4:=AE5 (f:=B1.size) (c:=36) (l:=(P2 t.Ops t.Got).2.2) fun w hm=>DO8 (h9.1.1 w hm);have hb:=(Bw7 h).1;have k1:=Az7 cuts (AI4 (i9 t.Got++O8 (P2 t.Ops t.Got).2.2));have k2:=Af9 (i9 t.Got++O8 (P2 t.Ops t.Got).2.2);have k3:=Az9 t.Got;have k5:=hb.got.1;rw[I2,show (O8 (P2 t.Ops t.Got).2.2).length=(P2 t.Ops t.Got).2.2.length from A8 ..]at k2;refine⟨by omega,?_⟩;unfold U7;omega
theorem BC1.nok {cuts:List Str}{ps:List (List TOp)}{ls:List (List Str)}(h:BC1 cuts ps ls):NOk cuts ps ls where
  cuts:=h.cuts
  ps:=⟨h.ps.1,fun p hp=>⟨(h.ps.2 p hp).1,by
    have h9:=AE5 (f:=TOp.size) (c:=36) (l:=p) fun o ho=>(AT6 (h.ps.2 p hp).1 o ho).size;have h6:p.length*(36+1)≤8*37:=AD0 _ (BJ7 (h.ps.2 p hp).1).2;omega⟩⟩
  ls:=⟨h.ls.1,fun l hl=>⟨CA4 (h.ls.2 l hl).1 (h.ls.2 l hl).2.2 (h.ls.2 l hl).2.1,(h.ls.2 l hl).1.2,fun k hk=>by have:=(AL9 ((h.ls.2 l hl).2.2 k hk)).2;omega⟩⟩
theorem nG5_keys :AQ4 Ai7 nG5:=fun r hr e he=>by
  have:∀r∈nG5.Reps,r.Log=[As5]:=by decide
  rw[this r hr]at he;rw[i6.1 he];intro w hw;cases hw
theorem nW_wz {cuts:List Str}{ps:List (List TOp)}{ls:List (List Str)}(h:BC1 cuts ps ls):WZ (nW cuts ps ls) where
  groups:=⟨by show (List.replicate (cuts.length+1) nG5).length≤3;rw[w3];have:=h.cuts.2.1;omega,fun g hg=>by rw[(AE0.1 hg).2];exact⟨by decide,nG5_keys⟩⟩
  cuts:=h.cuts.2
  clocks:=by show (List.replicate (3*(cuts.length+1)) (⟨0⟩:S6)).length≤9;rw[w3];have:=h.cuts.2.1;omega
  locks:=⟨by show (List.replicate (cuts.length+1) ([]:List G9)).length≤3;rw[w3];have:=h.cuts.2.1;omega,fun l hl=>by rw[(AE0.1 hl).2];decide⟩
  promised:=by show (List.replicate (cuts.length+1) (0:Int)).length≤3;rw[w3];have:=h.cuts.2.1;omega
  txns:=⟨by show (ps.map (BF1 (cuts.length+1))).length≤6;rw[A8];have:=h.ps.1;omega,fun t ht=>by
    obtain⟨p,hp,rfl⟩:=n6.1 ht;exact⟨(BJ7 (h.ps.2 p hp).1).1,E4 _⟩⟩
  looks:=⟨by show (AX4 (cuts.length+1) ls ls.length).length≤4;rw[Az6];exact h.ls.1,fun l hl=>by
    obtain⟨k,l9,hm,rfl⟩:=BO3 (K9 _) hl;exact⟨fun k hk=>by have:=(AL9 ((h.ls.2 l9 hm).2.2 k hk)).2;omega,E4 _⟩⟩
  ends:=⟨fun t ht=>by obtain⟨p,hp,rfl⟩:=n6.1 ht;exact .inl rfl,fun l hl=>by obtain⟨k,l9,hm,rfl⟩:=BO3 (K9 _) hl;exact .inl rfl⟩
theorem nW_sound {cuts:List Str}{ps:List (List TOp)}{ls:List (List Str)}(h:BC1 cuts ps ls)(hp:nOk ps=true):Z4 (nW cuts ps ls)=true∧AS3 (nW cuts ps ls)=(true,true):=by
  have hg:=nW_good h.nok hp;refine⟨hg,DW9 hg (fun g hm=>by rw[(AE0.1 hm).2];exact nG_safe) (fun k=> ?_) fun l hl=> ?_⟩
  · unfold BC2
    split
    · rename_i t ht
      obtain⟨p,hpm,rfl⟩:=n6.1 (C3 ht);exact DT8 cuts ps ls _ k p _ _
    ·rfl
  · obtain⟨k,l9,hm,rfl⟩:=BO3 (K9 _) hl
    rfl
theorem DX0 {cuts:List Str}{ps:List (List TOp)}{ls:List (List Str)}(h:At0 cuts ps ls):BL9 cuts ps ls=(Af0,false)∨(BL9 cuts ps ls=(nW cuts ps ls,true)∧BC1 cuts ps ls∧nOk ps=true):=by
  unfold BL9 nWR;split
  ·exact .inl rfl
  · rename_i h3
    split
    ·rename_i hn;exact .inr ⟨rfl,h.two h3,hn⟩
    ·exact .inl rfl
structure NewFit (w:C7)(b:Bool):Prop where
  lens:w.Clocks.length≤100∧(w.Groups.length≤100∧∀g∈w.Groups,g.Reps.length≤1048576)∧w.Locks.length≤100∧w.Txns.length≤100∧w.Looks.length≤100
  yes:b=true→WZ w∧Z4 w=true∧AS3 w=(true,true)∧∀g∈w.Groups,g=nG5
theorem newFit {cuts:List Str}{ps:List (List TOp)}{ls:List (List Str)}(h:At0 cuts ps ls):NewFit (BL9 cuts ps ls).1 (BL9 cuts ps ls).2:=by
  rcases DX0 h with e|⟨e,h2,hn⟩
  ·rw[e];exact⟨by decide,fun h=>by cases h⟩
  · rw[e]
    have z:=nW_wz h2;have hs:=nW_sound h2 hn;refine⟨⟨L7 z.clocks E5,⟨L7 z.groups.1 E5,fun g hg=>by rw[(AE0.1 hg).2];decide⟩,L7 z.locks.1 E5,L7 z.txns.1 E5,L7 z.looks.1 E5⟩,fun _=>⟨z,hs.1,hs.2,fun g hg=>(AE0.1 hg).2⟩⟩
end Go.M
namespace Go.Proofs.YtddgbffjgkkgiaaGreatDoor
open Go.PQ
open Go Go.AV Go.M
attribute [local irreducible] OpW OpA OpS AWP J6 L6 K3 OpE K4 I5 L0 Le Ev G4 L9 Y8 Int.tmod Int.tdiv IntKind.wrap T3
theorem Cj3 (b:Nat)(code:List Int)(hcode:AJ3 code)(c:w6)(hp:c.p≤1000000):M0 142 [AV.ptr b 0] [.box b 77 (q8 code c)] (fun x:w6×C7×Value×Value=>x.1.p≤c.p+2000∧WI x.2.1) (fun x=>[.box b 77 (q8 code x.1),.arr x.2.2.1 102 1 (x.2.1.Clocks.map S6.cs),.arr x.2.2.2 38 3 (x.2.1.Groups.map C1.cs)]) (fun x=>AV.agg (WP x.2.1 x.2.2.1 x.2.2.2)):=by
 refine C8 Tryz.func142 rfl Tryz.ntmps142 rfl ?_;refine R3 ?_;intro b2;refine R4 ?_;refine G8 [1] rfl rfl rfl rfl Tryz.call204 rfl (CN7 _ _ hcode _ qz7) (A2 (A0 rfl) A9) rfl ?_;intro x7 ok7;refine R1 ?_;intro b3;refine R3 ?_;refine Z9 _ 10 (.pure 0 (.pure 1 (.pure 2 (.e2 3 (.e2 4 (.pure 5 (.pure 6 (.pure 7 (.e1 8 (.e1 9 .nil))))) 8 (.e1 4 (.pure 5 (.pure 6 (.pure 7 (.e1 9 .nil)))))) 8 (.e1 3 (.e1 4 (.pure 5 (.pure 6 (.pure 7 (.e1 9 .nil)))))))))) E3 E3 rfl (U8 1) ?_;refine R3 ?_;refine AR7 ?_ ?_
 ·refine F7 rfl rfl rfl (S9 [1] rfl Tryz.call206 rfl (Bt2 _ _ hcode _ x7.2 _ ok7.2.1 E5 qz7) (A2 (A0 rfl) (A2 (A0 rfl) (A2 L1 A9))) rfl) (fun a _=>qz3) ?_;intro x12 ok12;refine AR7 ?_ ?_
  ·refine F7 rfl rfl rfl (S9 [] rfl Tryz.call205 rfl (Bt1 x7.2 x12.2 ok7.2.1 ok7.2.2 ok12.2.2 qz7) F3 rfl) (fun a _=>qz3) ?_;intro x13 ok13;refine R4 ?_;refine F7 rfl rfl rfl (S4 rfl Tryz.zeroValue32 rfl) (fun a _=>qz3) ?_;intro b4 _;refine R1 ?_;refine AZ3 rfl rfl rfl (AB5 6 rfl rfl (A0 rfl) (A0 rfl) (e6 _) rfl P4 rfl) (fun a _=>qz3) ?_;intro _ _;refine R9 ?_
   (refine I9 [2,2,2] ((x12.1,x13.1,x13.2.2.1)) ?_ rfl z8 (O2 rfl (F5 (ys:=_) 1 rfl rfl V5 P4 rfl));exact⟨by dsimp only;omega,ok13⟩)
  refine F7 rfl rfl rfl (S4 rfl Tryz.zeroValue32 rfl) (fun a _=>qz3) ?_;intro b4 _;refine R1 ?_;refine F7 rfl rfl rfl (S9 [] rfl Tryz.call205 rfl (Bt1 x7.2 x12.2 ok7.2.1 ok7.2.2 ok12.2.2 qz7) F3 rfl) (fun a _=>qz3) ?_;intro x13 ok13;refine R4 ?_;refine AZ3 rfl rfl rfl (AB5 3 rfl rfl (A0 rfl) (A0 rfl) (e6 _) rfl P4 rfl) (fun a _=>qz3) ?_;intro _ _;refine R9 ?_
  (refine I9 [2,3,3] ((x12.1,x13.1,x13.2.2.1)) ?_ rfl z8 (O2 rfl (F5 (ys:=_) 1 rfl rfl V5 P4 rfl));exact⟨by dsimp only;omega,ok13⟩)
 refine F7 rfl rfl rfl (S4 rfl Tryz.zeroValue32 rfl) (fun a _=>qz3) ?_;intro b4 _;refine R1 ?_;refine F7 rfl rfl rfl (S9 [1] rfl Tryz.call206 rfl (Bt2 _ _ hcode _ x7.2 _ ok7.2.1 E5 qz7) (A2 (A0 rfl) (A2 (A0 rfl) (A2 L1 A9))) rfl) (fun a _=>qz3) ?_;intro x12 ok12;refine R1 ?_;refine F7 rfl rfl rfl (S9 [] rfl Tryz.call205 rfl (Bt1 x7.2 x12.2 ok7.2.1 ok7.2.2 ok12.2.2 qz7) F3 rfl) (fun a _=>qz3) ?_;intro x13 ok13;refine R4 ?_;refine AZ3 rfl rfl rfl (AB5 2 rfl rfl (A0 rfl) (A0 rfl) (e6 _) rfl P4 rfl) (fun a _=>qz3) ?_;intro _ _;refine R9 ?_
 (refine I9 [3,3,3] ((x12.1,x13.1,x13.2.2.1)) ?_ rfl z8 (O2 rfl (F5 (ys:=_) 1 rfl rfl V5 P4 rfl));exact⟨by dsimp only;omega,ok13⟩)
theorem CN8 (b:Nat)(code:List Int)(hcode:AJ3 code)(c:w6)(hp:c.p≤1000000):M0 70 [AV.ptr b 0] [.box b 77 (q8 code c)] (fun x:w6×C7×Value×Value=>x.1.p≤c.p+3000∧WZ x.2.1) (fun x=>[.box b 77 (q8 code x.1),.arr x.2.2.1 102 1 (x.2.1.Clocks.map S6.cs),.arr x.2.2.2 38 3 (x.2.1.Groups.map C1.cs)]) (fun x=>AV.agg (WP x.2.1 x.2.2.1 x.2.2.2)):=by
 refine C8 Tryz.func70 rfl Tryz.ntmps70 rfl ?_;refine R3 ?_;intro b2;refine R4 ?_;refine zI [1] rfl Tryz.call142 (Cj3 _ _ hcode _ qz7) (A2 (A0 rfl) A9) rfl ?_;intro x5 ok5;have hw5:=ok5.2;have hn5:=hw5.n;have hc5:=hw5.clocks.1;have hz5:=wz_of hw5;obtain⟨c0,hc0⟩:=B2 (show 0<x5.2.1.Clocks.length by omega);obtain⟨g0,hg0⟩:=B2 (show 0<x5.2.1.Groups.length by omega);refine R1 ?_;intro b3;refine R6 ?_;refine zI [1] rfl Tryz.call32 (V4 _ _ hcode _ _ qz7 qz7) (A2 (A0 rfl) (A2 L1 A9)) rfl ?_;intro x7 ok7;refine zC ?_ ?_
 ·intro h8;refine R3 ?_;refine zI [0] rfl Tryz.call143 (AM7 _ _ hcode _ ([(-1),(100000),(100001)]:List Int) E5 qz7) (A2 (A0 rfl) (A2 (A0 rfl) A9)) rfl ?_;intro x12 ok12;refine R9 ?_
  (refine I9 [0,1,1] ((x12.1,{x5.2.1 with Now:=x12.2},x5.2.2.1,x5.2.2.2)) ?_ rfl CG1 (O2 rfl (F5 (ys:=_) 4 rfl rfl V5 P4 rfl));first|exact⟨by dsimp only;omega,Bt3 hz5 _⟩|exact⟨by dsimp only;omega,BT5 hz5 _ _⟩|exact⟨by dsimp only;omega,Bd1 hz5 hg0 _⟩|exact⟨by dsimp only;omega,BT6 hz5⟩|exact⟨by dsimp only;omega,hz5⟩)
 intro h8;refine zC ?_ ?_
 ·intro h14;refine R3 ?_;refine A1 rfl (I4 2 rfl J0 u6 zA rfl L1 qz7 AE8) ?_;refine A1 rfl (O1 2 rfl Tryz.underlying102 rfl E9 zA rfl rfl qz94) ?_;refine q9 2 rfl rfl rfl zA L1 (X2 _ _) rfl E9 qz94 rfl ?_;refine R7 ?_
  (refine I9 [0,1,1] ((x7.1,{x5.2.1 with Clocks:=x5.2.1.Clocks.set 0 ⟨6⟩},x5.2.2.1,x5.2.2.2)) ?_ rfl CG1 (O2 rfl (F5 (ys:=_) 4 rfl rfl V5 P4 rfl));first|exact⟨by dsimp only;omega,Bt3 hz5 _⟩|exact⟨by dsimp only;omega,BT5 hz5 _ _⟩|exact⟨by dsimp only;omega,Bd1 hz5 hg0 _⟩|exact⟨by dsimp only;omega,BT6 hz5⟩|exact⟨by dsimp only;omega,hz5⟩)
 intro h14;refine zC ?_ ?_
 ·intro h20;refine R3 ?_;refine A1 rfl (I4 3 rfl F8 C6 zA rfl L1 qz7 AE8) ?_;refine A1 rfl (O1 3 rfl Y7 rfl E9 zA rfl rfl qz93) ?_;refine q9 3 rfl rfl rfl zA L1 (X2 _ _) rfl E9 qz93 rfl ?_;refine R7 ?_
  (refine I9 [0,1,1] ((x7.1,{x5.2.1 with Groups:=x5.2.1.Groups.set 0 {g0 with Lead:=3}},x5.2.2.1,x5.2.2.2)) ?_ rfl CG1 (O2 rfl (F5 (ys:=_) 4 rfl rfl V5 P4 rfl));first|exact⟨by dsimp only;omega,Bt3 hz5 _⟩|exact⟨by dsimp only;omega,BT5 hz5 _ _⟩|exact⟨by dsimp only;omega,Bd1 hz5 hg0 _⟩|exact⟨by dsimp only;omega,BT6 hz5⟩|exact⟨by dsimp only;omega,hz5⟩)
 intro h20;refine zC ?_ ?_
 ·intro h26;refine R2 ?_;refine N2 1 rfl rfl rfl zA L2 (F6 rfl) rfl Tryz.sizeOf27 rfl ?_;refine R7 ?_;refine Q0 4 5 1 rfl rfl (AB1 0 rfl rfl M6) ?_
  (refine I9 [0,1,1] ((x7.1,{x5.2.1 with Locks:=[]},x5.2.2.1,x5.2.2.2)) ?_ rfl CG1 (O2 rfl (F5 (ys:=_) 4 rfl rfl V5 P4 rfl));first|exact⟨by dsimp only;omega,Bt3 hz5 _⟩|exact⟨by dsimp only;omega,BT5 hz5 _ _⟩|exact⟨by dsimp only;omega,Bd1 hz5 hg0 _⟩|exact⟨by dsimp only;omega,BT6 hz5⟩|exact⟨by dsimp only;omega,hz5⟩)
 intro h26;refine R7 ?_
 (refine I9 [0,1,1] ((x7.1,x5.2.1,x5.2.2.1,x5.2.2.2)) ?_ rfl CG1 (O2 rfl (F5 (ys:=_) 4 rfl rfl V5 P4 rfl));first|exact⟨by dsimp only;omega,Bt3 hz5 _⟩|exact⟨by dsimp only;omega,BT5 hz5 _ _⟩|exact⟨by dsimp only;omega,Bd1 hz5 hg0 _⟩|exact⟨by dsimp only;omega,BT6 hz5⟩|exact⟨by dsimp only;omega,hz5⟩)
theorem CF2 (b:Nat)(code:List Int)(hcode:AJ3 code)(c:w6)(hp:c.p≤1000000):M0 70 [AV.ptr b 0] [.box b 77 (q8 code c)] (fun x:w6×C7=>x.1.p≤c.p+3000∧WZ x.2) (fun x=>[.box b 77 (q8 code x.1)]) (fun x=>AV.agg x.2.cs):=
  Aj2 (fun x=>(x.1,x.2.1)) (fun x=>WR x.2.1 x.2.2.1 x.2.2.2) (fun x=>[.box b 77 (q8 code x.1)]) (CN8 b code hcode c hp) (fun _ h=>h) (fun x _=>wp_lend _ _ _) (fun x _=>AQ0 (l₁:=[_])) (fun _ _=>AB1 0 rfl rfl M6) (fun x _=>Bv6 ⟨rfl,rfl,AP0⟩ CH8)
theorem Bt4 (code:List Int)(hcode:AJ3 code):M0 16 [BB7 code] [] (fun x:C7=>WZ x) (fun _=>[]) (fun x=>AV.agg x.cs):=by
  refine C8 Tryz.func16 rfl Tryz.ntmps16 rfl ?_;refine R3 ?_;intro b2;refine R6 ?_;intro b6;refine R5 ?_;refine zI [0] rfl Tryz.call70 (CF2 _ _ hcode ⟨0,0⟩ E5) (A2 (A0 rfl) A9) rfl ?_;intro x8 ok8;refine R3 ?_;exact I9 [] (x8.2) (ok8.2) rfl B7 (O2 rfl (F5 (ys:=_) 1 rfl rfl V5 P4 rfl))
theorem Bt5 (code:List Int)(hcode:AJ3 code):M0 5 [BB7 code] [] (fun x:C7=>WZ x) (fun _=>[]) (fun x=>AV.agg x.cs):=by
  refine C8 Tryz.func5 rfl Tryz.ntmps5 rfl ?_;refine R3 ?_;intro b2;refine R4 ?_;refine zI [] rfl Tryz.call16 (Bt4 code hcode) G6 rfl ?_;intro x4 ok4;refine R3 ?_;exact I9 [] (x4) (ok4) rfl B7 (O2 rfl (F5 (ys:=_) 0 rfl rfl V5 P4 rfl))
end Go.Proofs.YtddgbffjgkkgiaaGreatDoor
namespace Go.Proofs.YtddgbffjgkkgiaaGreatDoor
open Go.PQ
open Go Go.AV Go.M
attribute [local irreducible] OpW OpA OpS AWP J6 L6 K3 OpE K4 I5 L0 Le Ev G4 L9 Y8 Int.tmod Int.tdiv IntKind.wrap T3
theorem CF3 (code:List Int)(hcode:AJ3 code):M0 10 [BB7 code] [] (fun x:List Str×List (List TOp)×List (List Str)=>At0 x.1 x.2.1 x.2.2) (fun _=>[]) (fun x=>AV.tup [strs x.1,AV.list 1 (x.2.1.map fun l=>[AV.list 4 (l.map TOp.cs)]),AV.list 1 (x.2.2.map fun l=>[strs l])]):=by
 refine C8 Tryz.func10 rfl Tryz.ntmps10 rfl ?_;refine zq10 ?_;refine zq88 ?_;refine zq88 ?_;refine R6 ?_;intro b9;refine R5 ?_;refine zI [0] rfl Tryz.call30 (BX0 _ _ hcode ⟨0,0⟩ E5) (A2 (A0 rfl) A9) rfl ?_;intro x11 ok11;have hp11:x11.1.p≤500:=ok11.1;try (refine sq_own (show _=[Go.AV.Own.box b9 77 (q8 code x13.1),Go.AV.Own.arr v16_1 84 1 ((x11.2.1++[[]]).map fun l:List TOp=>[AV.list 4 (l.map TOp.cs)])]from by rw[Y3];rfl) ?_)
 refine R6 ?_;refine zI [0] rfl Tryz.call31 (CJ4 _ _ hcode _ _ qz7 qz7) (A2 (A0 rfl) (A2 L1 A9)) rfl ?_;intro x13 ok13;refine zC ?_ ?_
 ·intro h13;refine R2 ?_;refine A1 rfl (AL3 rfl AL6 AR0 Tryz.zeroValue84 rfl rfl rfl rfl (B6 (j0 (sz:=4)) (S8 _ _) N6) rfl rfl) ?_;refine I0 (by':=24) 1 rfl rfl rfl rfl AL6 Tryz.type84 rfl rfl rfl rfl rfl rfl zA zA rfl BX7 ?_;intro v16_1;try (refine sq_own (show _=[Go.AV.Own.box b9 77 (q8 code x13.1),Go.AV.Own.arr v16_1 84 1 ((x11.2.1++[[]]).map fun l:List TOp=>[AV.list 4 (l.map TOp.cs)])]from by rw[Y3];rfl) ?_)
  refine R3 ?_;refine zq41 ?_;intro x24 ok24;obtain⟨cu,hcu⟩:=B2 (show x24.2.toNat<Cm8.length from(show x24.2.toNat<5 by omega));have hco:=Cz7 (C3 hcu);refine zq112 ?_;intro x29 ok29;refine R6 ?_;exact I9 [] ((cu,x11.2.1++[[]],x29.2)) (qz70) rfl B7 (j6 rfl E5 AT2)
 intro h13;refine R2 ?_;refine zq41 ?_;intro x24 ok24;obtain⟨cu,hcu⟩:=B2 (show x24.2.toNat<Cm8.length from(show x24.2.toNat<5 by omega));have hco:=Cz7 (C3 hcu);refine zq112 ?_;intro x29 ok29;refine R6 ?_;exact I9 [] ((cu,x11.2.1,x29.2)) (qz70) rfl B7 (j6 rfl E5 AT2)
theorem CW7 (cuts:List Str)(ps:List (List TOp))(ls:List (List Str))(h:At0 cuts ps ls)(h3:2<cuts.length):M0 11 [strs cuts,AV.list 1 (ps.map fun l=>[AV.list 4 (l.map TOp.cs)]),AV.list 1 (ls.map fun l=>[strs l])] [] (fun v:C7×Bool=>v=(Af0,false)) (fun _=>[]) (fun v=>AV.tup [AV.agg v.1.cs,AV.bool v.2]):=by
 have hcl:=h.cuts.2.1;have hcb:∀k∈cuts,k.length≤4611686018427387904:=fun k hk=>L7 (h.cuts.2.2 k hk) E5;refine C8 Tryz.func11 rfl Tryz.ntmps11 rfl ?_;refine R3 ?_;intro b6;refine R10 ?_;refine S0 rfl (fun hc=>zG rfl Tryz.call34 (BL4 cuts hcb) zS) ?_;refine R9 ?_;refine S0 rfl (fun hc=>zG rfl Tryz.call35 (BA3 ps (fun l=>D2 TOp.size l≤1048576) BX6 (fun p hp=>(BJ7 (h.ps.2 p hp).1).1)) (A2 (A7 rfl hc) (A2 (BC6 Tryz.call36 (fun l h=>Bd0 l h)) A9))) ?_;refine zC ?_ ?_
 ·intro h33;exact zq189
 intro h33
 (exfalso;simp only[A8]at h33;rw[W6 (show (cuts.length:Int)>2 by omega)]at h33;simp at h33)
theorem CW8 (cuts:List Str)(ps:List (List TOp))(ls:List (List Str))(h:At0 cuts ps ls)(h3:2<cuts.length):M0 12 [strs cuts,AV.list 1 (ps.map fun l=>[AV.list 4 (l.map TOp.cs)]),AV.list 1 (ls.map fun l=>[strs l])] [] (fun v:C7×Bool=>v=(Af0,false)) (fun _=>[]) (fun v=>AV.tup [AV.agg v.1.cs,AV.bool v.2]):=by
 have hcl:=h.cuts.2.1;have hcb:∀k∈cuts,k.length≤4611686018427387904:=fun k hk=>L7 (h.cuts.2.2 k hk) E5;refine C8 Tryz.func12 rfl Tryz.ntmps12 rfl ?_;refine R3 ?_;intro b6;refine R6 ?_;refine zF rfl Tryz.call45 (BS7 cuts hcb) G6 ?_;refine zC ?_ ?_
 ·intro h39;exact zq189
 intro h39
 (exfalso;simp only[A8]at h39;rw[W6 (show (cuts.length:Int)>2 by omega)]at h39;simp at h39)
theorem CN9 (cuts:List Str)(ps:List (List TOp))(ls:List (List Str))(h:At0 cuts ps ls):D6 11 [strs cuts,AV.list 1 (ps.map fun l=>[AV.list 4 (l.map TOp.cs)]),AV.list 1 (ls.map fun l=>[strs l])] (AV.tup [AV.agg (BL9 cuts ps ls).1.cs,AV.bool (BL9 cuts ps ls).2]):=by
  unfold BL9;split
  ·rename_i h3;exact J5 (CW7 cuts ps ls h h3) fun v hv=>by rw[hv];exact H9
  ·rename_i h3;exact J5 (Cj0 cuts ps ls (h.two h3)) fun v hv=>by rw[hv];exact H9
theorem CO0 (cuts:List Str)(ps:List (List TOp))(ls:List (List Str))(h:At0 cuts ps ls):D6 12 [strs cuts,AV.list 1 (ps.map fun l=>[AV.list 4 (l.map TOp.cs)]),AV.list 1 (ls.map fun l=>[strs l])] (AV.tup [AV.agg (BL9 cuts ps ls).1.cs,AV.bool (BL9 cuts ps ls).2]):=by
  unfold BL9;split
  ·rename_i h3;exact J5 (CW8 cuts ps ls h h3) fun v hv=>by rw[hv];exact H9
  ·rename_i h3;exact J5 (Bm0 cuts ps ls (h.two h3)) fun v hv=>by rw[hv.1];exact H9
end Go.Proofs.YtddgbffjgkkgiaaGreatDoor
namespace Go.Proofs.YtddgbffjgkkgiaaGreatDoor
open Go.PQ
open Go Go.AV Go.M
attribute [local irreducible] OpW OpA OpS AWP J6 L6 K3 OpE K4 I5 L0 Le Ev G4 L9 Y8 Int.tmod Int.tdiv IntKind.wrap T3
theorem Cz8 {p:Prop}(h:p:=by
 refine B0 tw14x0 rfl tw14x1 rfl ?_;refine Y0 (t:=0) rfl fun hl=> ?_;try simp only[A8]at hl
 refine zC ?_ ?_
 ·intro h10;exfalso;simp at h10
 intro h10;refine R9 ?_;refine E8 [(0,_),(1,_),(12,_)] _ (fun (i:Nat)=>i≤l.length) (fun i=>[]) (fun i=>[(13,AV.int i)]) (fun i=>l.length-i) (0) ?_ (G2 A6) ?_
 ·exact E4 _
 intro i hinv;refine zK ?_ ?_
 ·intro h14 k14;have hlt:i<l.length:=At1;obtain⟨x,hx⟩:=B2 hlt;refine R12 ?_;refine B3 rfl rfl (C2 rfl DA4 DA5 zA zA hx qz1) ?_;refine R3 ?_;refine B3 rfl rfl (C2 rfl DA4 DA5 zA zA hx qz1) ?_;refine R1 ?_;refine B3 rfl rfl (BI4 rfl tw14x4 E3 E3 zA zA (j5 E3 u3 rfl rfl (Aj1 P6) (j5 E3 tw14x5 rfl rfl (tw14x6 tw14x7) (j5 E3 AF5 rfl rfl (Am1 U4) Aj0)))) ?_;refine zC ?_ ?_
  ·intro h24;exfalso;simp at h24
  intro h24;refine R5 ?_;refine F1 i (i+1) ?_ ?_ (G2 A6)
  ·exact qz7
  omega
 intro h14 k14;refine R6 ?_;exact D1 rfl (A5 rfl B7)):p:=h
namespace tw14n0
def tw14x0 :=@Tryz.func57
def tw14x1 :=@Tryz.ntmps57
def DA4 :=@Tryz.underlying53
def DA5 :=@Tryz.sizeOf58
def tw14x4 :=@Tryz.underlying58
def tw14x5 :=@Tryz.isAgg9
def tw14x6 :=@Aj1
def tw14x7 :=@Tryz.underlying9
end tw14n0
open tw14n0 in
theorem Bd2 (l:List H7):D6 57 [AV.list 3 (l.map H7.cs),AV.list 3 (l.map H7.cs)] (AV.bool true):=Cz8
theorem Cj4 (l:List TOp):D6 127 [AV.list 4 (l.map TOp.cs),AV.list 4 (l.map TOp.cs)] (AV.bool true):=by
 refine B0 Tryz.func127 rfl Tryz.ntmps127 rfl ?_;refine Y0 (t:=0) rfl fun hl=> ?_;try simp only[A8]at hl
 refine zC ?_ ?_
 ·intro h10;exfalso;simp at h10
 intro h10;refine R9 ?_;refine E8 [(0,_),(1,_),(12,_)] _ (fun (i:Nat)=>i≤l.length) (fun i=>[]) (fun i=>[(13,AV.int i)]) (fun i=>l.length-i) (0) ?_ (G2 A6) ?_
 ·exact E4 _
 intro i hinv;refine zK ?_ ?_
 ·intro h14 k14;have hlt:i<l.length:=At1;obtain⟨x,hx⟩:=B2 hlt;refine R12 ?_;refine B3 rfl rfl (C2 rfl U6 Z1 zA zA hx qz1) ?_;refine R3 ?_;refine B3 rfl rfl (C2 rfl U6 Z1 zA zA hx qz1) ?_;refine R1 ?_;refine B3 rfl rfl (BI4 rfl Tryz.underlying92 E3 E3 zA zA (j5 E3 O3 rfl rfl (AY3 W8) (j5 E3 u3 rfl rfl (Aj1 P6) (j5 E3 u3 rfl rfl (Aj1 P6) (j5 E3 O3 rfl rfl (AY3 W8) Aj0))))) ?_;refine zC ?_ ?_
  ·intro h24;exfalso;simp at h24
  intro h24;refine R5 ?_;refine F1 i (i+1) ?_ ?_ (G2 A6)
  ·exact qz7
  omega
 intro h14 k14;exact zq105
namespace tw14n1
def tw14x0 :=@Tryz.func55
def tw14x1 :=@Tryz.ntmps55
def DA4 :=@Tryz.underlying105
def DA5 :=@Tryz.sizeOf175
def tw14x4 :=@Tryz.underlying175
def tw14x5 :=@Tryz.isAgg3
def tw14x6 :=@AY3
def tw14x7 :=@Tryz.underlying3
end tw14n1
open tw14n1 in
theorem CO1 (l:List G9):D6 55 [AV.list 3 (l.map G9.cs),AV.list 3 (l.map G9.cs)] (AV.bool true):=Cz8
theorem Cj5 (l:List F4):D6 126 [AV.list 8 (l.map F4.cs),AV.list 8 (l.map F4.cs)] (AV.bool true):=by
 refine B0 Tryz.func126 rfl Tryz.ntmps126 rfl ?_;refine Y0 (t:=0) rfl fun hl=> ?_;try simp only[A8]at hl
 refine zC ?_ ?_
 ·intro h10;exfalso;simp at h10
 intro h10;refine R9 ?_;refine E8 [(0,_),(1,_),(12,_)] _ (fun (i:Nat)=>i≤l.length) (fun i=>[]) (fun i=>[(13,AV.int i)]) (fun i=>l.length-i) (0) ?_ (G2 A6) ?_
 ·exact E4 _
 intro i hinv;refine zK ?_ ?_
 ·intro h14 k14;have hlt:i<l.length:=At1;obtain⟨x,hx⟩:=B2 hlt;refine R12 ?_;refine B3 rfl rfl (C2 rfl L3 Q1 zA zA hx qz1) ?_;refine R4 ?_;refine B3 rfl rfl (C2 rfl L3 Q1 zA zA hx qz1) ?_;refine R6 ?_;refine zq144 ?_;refine R4 ?_;refine zq144 ?_;refine R2 ?_;refine M1 rfl (Y6 rfl rfl rfl) (fun hc=>zG rfl Tryz.call196 (Cf9 x.Rec x.Rec) zS) ?_;refine zC ?_ ?_
  ·intro h40;exfalso;simp at h40
  intro h40;refine R5 ?_;refine F1 i (i+1) ?_ ?_ (G2 A6)
  ·exact qz7
  omega
 intro h14 k14;exact zq105
theorem CO2 (g:C1)(hl:g.Reps.length≤1048576):D6 54 [AV.agg g.cs,AV.agg g.cs] (AV.bool true):=by
 refine B0 Tryz.func54 rfl Tryz.ntmps54 rfl ?_;refine R3 ?_;intro b2;refine R1 ?_;intro b3;refine zC ?_ ?_
 ·intro h27;exfalso;simp at h27
 intro h27;refine R10 ?_;refine E8 [(3,_),(29,_),(30,_)] _ (fun (i:Nat)=>i≤g.Reps.length) (fun i=>[]) (fun i=>[(31,AV.int i)]) (fun i=>g.Reps.length-i) (0) ?_ (I1 B7 A6) ?_
 ·exact E4 _
 intro i hinv;refine zK ?_ ?_
 ·intro h32 k32;have hlt:i<g.Reps.length:=(by simpa using h32);obtain⟨x,hx⟩:=B2 hlt;refine R6 ?_;refine zq116 ?_;refine R2 ?_;intro b6;refine R10 ?_;refine zq122 ?_;refine R2 ?_;refine B3 rfl rfl (Ba3 rfl U4 zA zA) ?_;refine R6 ?_;refine M1 rfl (Y6 rfl rfl rfl) (fun hc=>C2 rfl D4 F9 (A7 rfl hc) (A7 rfl hc) hx qz6) ?_;refine R10 ?_;refine M1 rfl (Y6 rfl rfl rfl) (fun hc=>C2 rfl D4 F9 (A7 rfl hc) (A7 rfl hc) hx qz6) ?_;refine R2 ?_;refine M1 rfl (Y6 rfl rfl rfl) (fun hc=>zG rfl Tryz.call126 (Cj5 x.Log) zS) ?_;refine zC ?_ ?_
  ·intro h67;exfalso;simp at h67
  intro h67;refine R5 ?_;refine F1 i (i+1) ?_ ?_ (Le.trans (B4 [0] rfl) (D5 1 B7 A6))
  ·exact qz7
  omega
 intro h32 k32;exact zq105
theorem Cj6 (t:B5):D6 56 [AV.agg t.cs,AV.agg t.cs] (AV.bool true):=by
  refine B0 Tryz.func56 rfl Tryz.ntmps56 rfl ?_;refine R3 ?_;intro b2;refine R1 ?_;intro b3;refine R8 ?_;refine zF rfl Tryz.call127 (Cj4 t.Ops) F3 ?_;refine R5 ?_;refine L5 rfl (fun hc=>zG rfl Tryz.call57 (Bd2 t.Got) zS) ?_;refine R6 ?_;refine L5 rfl (fun hc=>zG rfl Tryz.call53 (Bl7 t.Terms t.Terms) zS) ?_;refine R20 ?_;refine zq77 ?_;refine R13 ?_;refine zq77 ?_;refine R6 ?_;refine zq77 ?_;refine R6 ?_;refine zq77 ?_;refine R4 ?_;exact D1 rfl (A5 rfl (by exact F2 AV.bool X1))
theorem CO3 (w:C7)(h1:w.Clocks.length≤100)(h2:w.Groups.length≤100∧∀g∈w.Groups,g.Reps.length≤1048576)(h3:w.Locks.length≤100)(h4:w.Txns.length≤100)(h5:w.Looks.length≤100):D6 13 [AV.agg w.cs,AV.agg w.cs] (AV.bool true):=by
 refine B0 Tryz.func13 rfl Tryz.ntmps13 rfl ?_;refine R3 ?_;intro b2;refine R1 ?_;intro b3;refine R22 ?_;refine S0 rfl (fun hc=>zG rfl Tryz.call52 (Bc1 w.Cuts w.Cuts) zS) ?_;refine R7 ?_;refine S0 rfl (fun hc=>zG rfl Tryz.call53 (Bl7 w.Promised w.Promised) zS) ?_;refine R40 ?_;refine zC ?_ ?_
 ·intro h84;exfalso;simp at h84
 intro h84;refine R10 ?_;refine E8 [(2,_),(3,_),(87,_)] _ (fun (i:Nat)=>i≤w.Clocks.length) (fun i=>[]) (fun i=>[(88,AV.int i)]) (fun i=>w.Clocks.length-i) (0) ?_ (I1 B7 A6) ?_
 ·exact E4 _
 intro i hinv;refine zK ?_ ?_
 ·intro h89 k89;have hlt:i<w.Clocks.length:=(by simpa using h89);obtain⟨x,hx⟩:=B2 hlt;refine R13 ?_;refine B3 rfl rfl (C2 rfl J0 u6 zA zA hx qz1) ?_;refine R4 ?_;refine B3 rfl rfl (C2 rfl J0 u6 zA zA hx qz1) ?_;refine R1 ?_;refine B3 rfl rfl (BI4 rfl Tryz.underlying102 E3 E3 zA zA (j5 E3 O3 rfl rfl (AY3 W8) Aj0)) ?_;refine zC ?_ ?_
  ·intro h101;exfalso;simp at h101
  intro h101;refine R5 ?_;refine F1 i (i+1) ?_ ?_ (I1 B7 A6)
  ·exact qz7
  omega
 intro h89 k89;refine R10 ?_;refine E8 [(2,_),(3,_),(105,_)] _ (fun (i:Nat)=>i≤w.Groups.length) (fun i=>[]) (fun i=>[(106,AV.int i)]) (fun i=>w.Groups.length-i) (0) ?_ (I1 B7 A6) ?_
 ·exact E4 _
 intro i hinv;refine zK ?_ ?_
 ·intro h107 k107;have hlt:i<w.Groups.length:=(by simpa using h107);obtain⟨x,hx⟩:=B2 hlt;refine R13 ?_;refine B3 rfl rfl (C2 rfl F8 C6 zA zA hx qz1) ?_;refine R4 ?_;refine B3 rfl rfl (C2 rfl F8 C6 zA zA hx qz1) ?_;refine R1 ?_;refine B3 rfl rfl (zG rfl Tryz.call54 (CO2 x (h2.2 x (C3 hx))) F3) ?_;refine zC ?_ ?_
  ·intro h120;exfalso;simp at h120
  intro h120;refine R5 ?_;refine F1 i (i+1) ?_ ?_ (I1 B7 A6)
  ·exact qz7
  omega
 intro h107 k107;refine R10 ?_;refine E8 [(2,_),(3,_),(124,_)] _ (fun (i:Nat)=>i≤w.Locks.length) (fun i=>[]) (fun i=>[(125,AV.int i)]) (fun i=>w.Locks.length-i) (0) ?_ (I1 B7 A6) ?_
 ·exact E4 _
 intro i hinv;refine zK ?_ ?_
 ·intro h126 k126;have hlt:i<w.Locks.length:=(by simpa using h126);obtain⟨x,hx⟩:=B2 hlt;refine R13 ?_;refine B3 rfl rfl (C2 rfl K1 i8 zA zA hx qz1) ?_;refine R4 ?_;refine B3 rfl rfl (C2 rfl K1 i8 zA zA hx qz1) ?_;refine R1 ?_;refine B3 rfl rfl (zG rfl Tryz.call55 (CO1 x) F3) ?_;refine zC ?_ ?_
  ·intro h139;exfalso;simp at h139
  intro h139;refine R5 ?_;refine F1 i (i+1) ?_ ?_ (I1 B7 A6)
  ·exact qz7
  omega
 intro h126 k126;refine R10 ?_;refine E8 [(2,_),(3,_),(143,_)] _ (fun (i:Nat)=>i≤w.Txns.length) (fun i=>[]) (fun i=>[(144,AV.int i)]) (fun i=>w.Txns.length-i) (0) ?_ (I1 B7 A6) ?_
 ·exact E4 _
 intro i hinv;refine zK ?_ ?_
 ·intro h145 k145;have hlt:i<w.Txns.length:=(by simpa using h145);obtain⟨x,hx⟩:=B2 hlt;refine R13 ?_;refine B3 rfl rfl (C2 rfl M4 U3 zA zA hx qz1) ?_;refine R4 ?_;refine B3 rfl rfl (C2 rfl M4 U3 zA zA hx qz1) ?_;refine R1 ?_;refine B3 rfl rfl (zG rfl Tryz.call56 (Cj6 x) F3) ?_;refine zC ?_ ?_
  ·intro h158;exfalso;simp at h158
  intro h158;refine R5 ?_;refine F1 i (i+1) ?_ ?_ (I1 B7 A6)
  ·exact qz7
  omega
 intro h145 k145;refine R10 ?_;refine E8 [(3,_),(161,_),(162,_)] _ (fun (i:Nat)=>i≤w.Looks.length) (fun i=>[]) (fun i=>[(163,AV.int i)]) (fun i=>w.Looks.length-i) (0) ?_ (I1 B7 A6) ?_
 ·exact E4 _
 intro i hinv;refine zK ?_ ?_
 ·intro h164 k164;have hlt:i<w.Looks.length:=(by simpa using h164);obtain⟨x,hx⟩:=B2 hlt;refine R6 ?_;refine A1 rfl (C2 rfl j8 AJ8 zA zA hx qz1) ?_;refine R2 ?_;intro b10;refine R8 ?_;refine A1 rfl (C2 rfl j8 AJ8 zA zA hx qz1) ?_;refine R2 ?_;intro b11;refine R14 ?_;refine S0 rfl (fun hc=>zG rfl Tryz.call52 (Bc1 x.Keys x.Keys) zS) ?_;refine R7 ?_;refine S0 rfl (fun hc=>zG rfl Tryz.call57 (Bd2 x.Got) zS) ?_;refine zC ?_ ?_
  ·intro h214;exfalso;simp at h214
  intro h214;refine R5 ?_;refine F1 i (i+1) ?_ ?_ (Le.trans (B4 [0,0] rfl) (D5 2 B7 A6))
  ·exact qz7
  omega
 intro h164 k164;exact zq105
end Go.Proofs.YtddgbffjgkkgiaaGreatDoor
namespace Go.Proofs.YtddgbffjgkkgiaaGreatDoor
open Go.PQ
open Go Go.AV Go.M
open Go.ChangeShapes Go.WideShapes Go.ChangeAt Go.RowKit
section
attribute [local irreducible] OpW OpA OpS AWP J6 L6 K3 OpE K4 I5 L0 Le Ev G4 L9 Int.tmod Int.tdiv IntKind.wrap T3
theorem Cz9 (code:List Int)(hc:∀x∈code,(Lit.int .u8 x).wf=true)(more:List Int)(hm:∀x∈more,(Lit.int .u8 x).wf=true):D6 3 [AV.wt Al6 (BB7 code),BB7 more] (AV.bool true):=by
 refine B0 Tryz.func3 rfl Tryz.ntmps3 rfl ?_;refine zq195 ?_;refine R9 ?_;refine zF rfl Tryz.call4 (big_spec code more) F3 ?_;refine zC ?_ ?_
 ·intro h30;refine R5 ?_;exact D1 rfl (A5 rfl qz189)
 intro h30;have hb0:AJ3 code:=Cr8 hc;have hb1:AJ3 more:=Cr8 hm;refine R4 ?_;refine zI [] rfl Tryz.call5 (Bt5 code hb0) G6 rfl ?_;intro x32 ok32;obtain⟨w,hx32⟩:∃z,z=x32:=⟨_,rfl⟩;subst hx32;have hz:WZ w:=ok32;have hgl:=hz.groups.1;have hkl:=hz.looks.1;refine R1 ?_;intro b5;refine R5 ?_;refine A1 rfl (Ad5 1 rfl rfl Tryz.call6 rfl (BT2 w hz (fun t _ h=>CA7 w.Cuts h)) G6 BQ8) ?_;refine R9 ?_;refine zF rfl Tryz.call7 (CF1 w hz) G6 ?_;refine R11 ?_;refine A1 rfl (Ba3 rfl U4 zA zA) ?_;refine R3 ?_;refine S0 rfl (fun hc=>Ba3 rfl U4 (A7 rfl hc) (A7 rfl hc)) ?_;refine zC ?_ ?_
 ·intro h50;exfalso;rw[Dh0 hz]at h50;simp at h50
 intro h50;refine R9 ?_;refine awp_join [(1,_)] A6 ?_ ?_
 ·skip
  refine zC ?_ ?_
  ·intro h54;obtain⟨hgw,hsg,hsk⟩:=DI2 h54;refine R9 ?_;refine E8 [(1,_),(5,_),(56,_),(57,_)] _ (fun (i:Nat)=>i≤w.Groups.length) (fun i=>[]) (fun i=>[(58,AV.int i)]) (fun i=>w.Groups.length-i) (0) ?_ (I1 B7 A6) ?_
   ·exact E4 _
   intro i hinv;refine zK ?_ ?_
   ·intro h59 k59;have hlt:i<w.Groups.length:=(by simpa using h59);obtain⟨g,hg⟩:=B2 hlt;have hgz:=hz.groups.2 g (C3 hg);refine R5 ?_;refine zq101 ?_;intro b11;refine R5 ?_;refine zF rfl Tryz.call8 (CA3 g hgz.1) G6 ?_;refine zC ?_ ?_
    ·intro h64;exfalso;rw[hsg g (C3 hg)]at h64;simp at h64
    intro h64;refine R5 ?_;refine F1 i (i+1) ?_ ?_ (Le.trans (B4 [0] rfl) (D5 1 B7 A6))
    ·exact qz7
    omega
   intro h59 k59;refine R9 ?_;refine E8 [(1,_),(5,_),(68,_)] _ (fun (m:Nat)=>m≤w.Looks.length) (fun m=>[]) (fun m=>[(69,AV.int m)]) (fun m=>w.Looks.length-m) (0) ?_ (I1 B7 A6) ?_
   ·exact E4 _
   intro m hinv;refine zK ?_ ?_
   ·intro h70 k70;have hlt1:m<w.Looks.length:=(by simpa using h70);obtain⟨l,hl⟩:=B2 hlt1;refine R12 ?_;refine zF rfl Tryz.call9 (CV9 w m l hz hgw hl) F3 ?_;refine zC ?_ ?_
    ·intro h83;exfalso;rw[hsk l (C3 hl)]at h83;simp at h83
    intro h83;refine R5 ?_;refine F1 m (m+1) ?_ ?_ (I1 B7 A6)
    ·exact qz7
    omega
   intro h70 k70;refine R1 ?_;exact Le.trans (B4 [0,0] rfl) (D5 0 B7 A6)
  intro h54;refine R1 ?_;exact Le.trans (B4 [0,0] rfl) (D5 0 B7 A6)
 refine R3 ?_;refine zI [] rfl Tryz.call10 (CF3 more hb1) G6 rfl ?_;intro x87 ok87;obtain⟨⟨cuts,ps,ls⟩,hx87⟩:∃z,x87=z:=⟨_,rfl⟩;subst hx87;have hno:At0 cuts ps ls:=ok87;have hfit:=newFit hno;have hnI:=CN9 cuts ps ls hno;have hnS:=CO0 cuts ps ls hno;obtain⟨⟨x9,b9⟩,hR9⟩:∃z,BL9 cuts ps ls=z:=⟨_,rfl⟩;rw[hR9]at hfit hnI hnS;dsimp only at hfit hnI hnS;have hxl:=hfit.lens.2.1.1;dsimp only;refine R13 ?_;refine zF rfl Tryz.call11 (hnI) AD5 ?_;refine R4 ?_;intro b18;refine R8 ?_;refine zF rfl Tryz.call12 (hnS) AD5 ?_;refine R4 ?_;intro b20;refine R8 ?_;refine A1 rfl (Ba3 rfl U4 zA zA) ?_;refine R3 ?_;refine S0 rfl (fun hc=>zG rfl Tryz.call13 (CO3 x9 hfit.lens.1 hfit.lens.2.1 hfit.lens.2.2.1 hfit.lens.2.2.2.1 hfit.lens.2.2.2.2) zS) ?_;refine zC ?_ ?_
 ·intro h113;exfalso;simp at h113
 intro h113;refine zC ?_ ?_
 ·intro h114;obtain⟨hxz,hxg,hxs,hx5⟩:=hfit.yes h114;refine R3 ?_;refine A1 rfl (Ad5 3 rfl rfl Tryz.call6 rfl (BT2 x9 hxz (fun t _ h=>CA7 x9.Cuts h)) G6 BQ8) ?_;refine R15 ?_;refine E8 [(18,_),(22,_),(23,_),(121,_),(122,_)] _ (fun (i:Nat)=>i≤x9.Groups.length) (fun i=>[]) (fun i=>[(123,AV.int i)]) (fun i=>x9.Groups.length-i) (0) ?_ (I1 B7 A6) ?_
  ·exact E4 _
  intro i hinv;refine zK ?_ ?_
  ·intro h124 k124;have hlt2:i<x9.Groups.length:=(by simpa using h124);obtain⟨g,hg⟩:=B2 hlt2;have hge:=hx5 g (C3 hg);subst hge;refine R5 ?_;refine zq101 ?_;intro b25;refine R5 ?_;refine zF rfl Tryz.call14 (Ci8 nG5 E5 DL9.2.2.2.2.2) G6 ?_;refine zC ?_ ?_
   ·intro h137;exfalso;rw[nG_ready]at h137;simp at h137
   intro h137;refine R5 ?_;refine F1 i (i+1) ?_ ?_ (Le.trans (B4 [0] rfl) (D5 1 B7 A6))
   ·exact qz7
   omega
  intro h124 k124;refine R4 ?_;refine zF rfl Tryz.call15 (BA2 x9 hxz) G6 ?_;refine R9 ?_;exact D1 rfl (A5 rfl qz189)
 intro h114;refine R6 ?_;exact D1 rfl (A5 rfl qz189)
end
theorem CA8 :CO6 Tryz.prog 22 (List Int) (fun l=>[BB7 l]) (fun l=>∀x∈l,(Lit.int .u8 x).wf=true):=DA9 (sz:=1) AL5 E3 (DX4 Tryz.underlying5) (fun _=>rfl)
set_option maxRecDepth 100000 in
theorem fnSound_lifted (os:Os)(started:os.Started)(H:Type)(enc:TypeId×Value→H):
    ReturnsInHanded {} Tryz.checked os 3 .any (fun w args=>(Rows.fnSoundSpec.pre enc Tryz.prog Tryz.f3 [] false w args∧laidMetH Tryz.prog Rows.fnSoundRow.laid w)∧sizedMet enc Tryz.prog Tryz.f3 (OpenSpec.ofChange Rows.fnSoundSpec) false w args) (Rows.fnSoundSpec.post enc Tryz.prog Tryz.f3 false true false false):=by
  refine Go.AV.Cf3 (C:=Tryz.checked) (X:=fun w _=>laidMetH Tryz.prog Rows.fnSoundRow.laid w) (fun _ _ _ hh h=>h.of_heap hh) E3 started E3 Tryz.func3
    (ChangeSpec.witness_shaped (enc:=enc) (C:=Tryz.checked) (os:=os) (X:=fun w _=>laidMetH Tryz.prog Rows.fnSoundRow.laid w) false (World.laidAll Tryz.prog os Rows.fnSoundRow.laid) #[.slice none 0 0,.slice none 0 0] 8 (World.laidAll_os _ _ _)
      (World.shaped_of_ZipB E3 E3) E3 E3 E3
      (by rw[MakeChecks.laidMetH_plain _ _ _ E3];exact laidMet_laidAll _ E3 E3)) ?_
  intro W base args ds gs before hval0 hW hsh _ hL _;rw[MakeChecks.laidMetH_plain _ _ _ E3]at hL;have hT:Al6 W:=readW_of hL hsh;have hval:∀(j:Nat) t v,Tryz.f3.params[j]? =some t→args[j]? =some v→Value.okWide Tryz.prog W .any base t v:=hval0;have hW2:=hW;obtain⟨p,q,hA0,hV,rfl,hfz,hnd⟩:=hW;have hA:DataW.TrodAll enc Tryz.prog W 0 (fun _=>true) true Tryz.f3.params.toList args.toList ds p:=hA0;rw[Tryz.params3]at hA hval;obtain⟨v0,vs0,d0,ds0,p0,q0,hargs,rfl,rfl,h0,r0⟩:=trodAll_cons hA;obtain⟨v1,vs1,d1,ds1,p1,q1,rfl,rfl,rfl,h1,r1⟩:=trodAll_cons r0;obtain⟨rfl,rfl,rfl⟩:=trodAll_nil r1;obtain rfl:args=#[v0,v1]:=by cases args;simp_all
  obtain⟨rfl,rfl⟩:=trodVars_none hV;have lt0:∀x∈p0,x.block<W.heap.size:=by obtain⟨m,hm⟩:=h0;exact DataW.trod_lt m _ _ _ hm
  obtain⟨a0,w0,g0⟩:=DJ0 (CA8) (by obtain⟨y1,y2,y3,rfl⟩:=okWide_slice AL5 (hval 0 22 v0 rfl rfl);rfl) h0;have lt1:∀x∈p1,x.block<W.heap.size:=by obtain⟨m,hm⟩:=h1;exact DataW.trod_lt m _ _ _ hm
  obtain⟨a1,w1,g1⟩:=DJ0 (CA8) (by obtain⟨y1,y2,y3,rfl⟩:=okWide_slice AL5 (hval 1 22 v1 rfl rfl);rfl) h1;have hcall:=DX5 (Cz9 a0 w0 a1 w1) (m3.cons ⟨g0,fun w2 hw2=>DU2 hT hw2⟩ (m3.cons g1 (m3.nil _)));clear hA0 hval0;refine Calls.mono hcall fun e W2 ⟨he,bel⟩=> ?_;subst he;exact⟨_,rfl,_,_,_,[],_,[],hW2,trodAll_mk1 (shut_bool U4 _),(trodAll_cons_mk (Below.trod (by kernel_rfl:laidOutB Tryz.prog=true) E3 (AB7 E3) h0 bel lt0) (trodAll_cons_mk (Below.trod (by kernel_rfl:laidOutB Tryz.prog=true) E3 (AB7 E3) h1 bel lt1) trodAll_mk0)),rfl,bel.frame _,fun h=>by cases h⟩
end Go.Proofs.YtddgbffjgkkgiaaGreatDoor
