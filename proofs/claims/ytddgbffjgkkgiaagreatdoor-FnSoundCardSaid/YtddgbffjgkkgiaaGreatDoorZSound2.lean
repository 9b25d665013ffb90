/- Texts of the claim, part 2. -/
import Derived.Laws.BytesArg
import Derived.Laws.IdiomStrings
import Derived.Lib.AppendZerosOnto
import Derived.Lib.Overlaps
import Derived.Sort.Grow
import Derived.Lib.LaidTab
import Derived.Lib.ItoaNum
import Derived.Lib.Split
import Derived.Lib.SplitLaws
import Derived.Lib.ConvBytes
import Derived.WideLaws
import Derived.SizedLaws
import Derived.Test.YtddgbffjgkkgiaaGreatDoorProg
import Derived.Sort.Walk0
import Derived.Test.YtddgbffjgkkgiaaGreatDoorZSound1
set_option linter.unusedVariables false
set_option linter.unusedSimpArgs false
set_option maxRecDepth 100000
set_option maxHeartbeats 4000000
set_option linter.defProp false
def P6 :=@Go.Proofs.Tryz.underlying9
def S5 :=@Go.Proofs.Tryz.isAgg64
def H1 :=@Go.Proofs.Tryz.underlying61
def AJ8 :=@Go.Proofs.Tryz.sizeOf55
def T1 :=@Go.Proofs.Tryz.underlying55
def AY5 :=@Go.Proofs.Tryz.sizeOf163
def F9 :=@Go.Proofs.Tryz.sizeOf70
def E7 :=@Go.Proofs.Tryz.underlying60
def M4 :=@Go.Proofs.Tryz.underlying29
def L3 :=@Go.Proofs.Tryz.underlying68
def K7 :=@Go.Proofs.Tryz.underlying62
def V2 :=@Go.Proofs.Tryz.underlying105
def AN6 :=@Go.Proofs.Tryz.underlying201
def y9 :=@Go.Proofs.Tryz.sizeOf167
def C6 :=@Go.Proofs.Tryz.sizeOf38
def E2 :=@Go.Proofs.Tryz.underlying25
def O0 :=@Go.Proofs.Tryz.sizeOf144
def D3 :=@Go.Proofs.Tryz.underlying28
def Ae2 :=@Go.Proofs.Tryz.isAgg163
def AA3 :=@Go.Proofs.Tryz.underlying64
def AA0 :=@Go.Proofs.Tryz.sizeOf25
def u5 :=@Go.Proofs.Tryz.sizeOf175
def AR0 :=@Go.Proofs.Tryz.sizeOf84
def X7 :=@Go.Proofs.Tryz.underlying212
def i8 :=@Go.Proofs.Tryz.sizeOf105
def AW1 :=@Go.Proofs.Tryz.sizeOf62
def u6 :=@Go.Proofs.Tryz.sizeOf102
def M8 :=@Go.Proofs.Tryz.sizeOf248
def K6 :=@Go.Proofs.Tryz.isAgg38
def q6 :=@Go.Proofs.Tryz.underlying70
def AL5 :=@Go.Proofs.Tryz.underlying22
def AM5 :=@Go.Proofs.Tryz.isAgg53
def Ae3 :=@Go.Proofs.Tryz.sizeOf28
def Q1 :=@Go.Proofs.Tryz.sizeOf179
def Y7 :=@Go.Proofs.Tryz.underlying38
def z5 :=@Go.Proofs.Tryz.sizeOf209
def J0 :=@Go.Proofs.Tryz.underlying24
def V5 :=@Go.Proofs.Tryz.isAgg32
def E9 :=@Go.Proofs.Tryz.sizeOf3
def Ae4 :=@Go.Proofs.Tryz.isAgg144
def K0 :=@Go.Proofs.Tryz.sizeOf214
def D4 :=@Go.Proofs.Tryz.underlying36
def j3 :=@Go.Proofs.Tryz.sizeOf4
def AD2 :=@Go.Proofs.Tryz.underlying42
def X8 :=@Go.Proofs.Tryz.underlying214
def AE7 :=@Go.Proofs.Tryz.underlying202
def Y5 :=@Go.Proofs.Tryz.sizeOf53
def AH2 :=@Go.Proofs.Tryz.isAgg277
def I6 :=@Go.Proofs.Tryz.sizeOf9
def M5 :=@Go.Proofs.Tryz.underlying94
def z6 :=@Go.Proofs.Tryz.sizeOf212
def Q2 :=@Go.Proofs.Tryz.sizeOf118
def AF5 :=@Go.Proofs.Tryz.isAgg4
def W7 :=@Go.Proofs.Tryz.sizeOf58
def AR1 :=@Go.Proofs.Tryz.sizeOf36
def AM9 :=@Go.Proofs.Tryz.sizeOf61
def AW2 :=@Go.Proofs.Tryz.sizeOf29
def j8 :=@Go.Proofs.Tryz.underlying30
def AB0 :=@Go.Proofs.Tryz.sizeOf277
def J1 :=@Go.Proofs.Tryz.underlying32
def Z1 :=@Go.Proofs.Tryz.sizeOf92
def j9 :=@Go.Proofs.Tryz.underlying50
def AN7 :=@Go.Proofs.Tryz.underlying118
def N1 :=@Go.Proofs.Tryz.underlying53
def AJ9 :=@Go.Proofs.Tryz.isAgg92
def AK0 :=@Go.Proofs.Tryz.isAgg167
def AL6 :=@Go.Proofs.Tryz.underlying41
def K1 :=@Go.Proofs.Tryz.underlying27
def AW3 :=@Go.Proofs.Tryz.isAgg118
def F8 :=@Go.Proofs.Tryz.underlying26
def U6 :=@Go.Proofs.Tryz.underlying84
def K8 :=@Go.Proofs.Tryz.sizeOf64
def u3 :=@Go.Proofs.Tryz.isAgg9
def AW4 :=@Go.Proofs.Tryz.sizeOf68
def G5 :=@Go.Proofs.Tryz.underlying123
def U3 :=@Go.Proofs.Tryz.sizeOf94
def P4 :=@Go.Proofs.Tryz.sizeOf32
def O3 :=@Go.Proofs.Tryz.isAgg3
def W8 :=@Go.Proofs.Tryz.underlying3
def U4 :=@Go.Proofs.Tryz.underlying4
namespace Go.AV
open Go.RowKit (Below)
section
variable {P:Program} {G:Nat→Prop} {n:Nat}
def OpE (P:Program) (G:Nat→Prop) (n:Nat) (W:List Own) (ops:Array Oper) (o:Oper) (E:P3) {α:Type} (ok:α→Prop) (W':α→List Own) (V:α→AV):Prop:=
  ∀ w0 R0 R a w,X0 G w0 R0 W R w→a.tmps.size=n→(∀t∈o.looksAt ops,∀y,E t=some y→y.den R (a.tmps.getD t undef))→
    o.wp P a w (fun a' w'=>∃x v R',ok x∧a'=a.put o.dst v∧X0 G w0 R0 (W' x) R' w'∧M9 R R'∧(V x).den R' v) (fun _ _ _=>False)
theorem OpE.congr {W:List Own}{ops:Array Oper}{o:Oper}{E E':P3}{α:Type}{ok:α→Prop}{W':α→List Own}{V:α→AV}(h:OpE P G n W ops o E ok W' V)(he:∀t∈o.looksAt ops,E' t=E t):OpE P G n W ops o E' ok W' V:=
  fun w0 R0 R a w h1 h2 h3=>h w0 R0 R a w h1 h2 fun t ht y hy=>h3 t ht y (by rw[he t ht];exact hy)
def AU0 (base W:List Own):Prop:=∃ext,W=base++ext
theorem AZ1 {own:List Own}:AU0 own own:=⟨[],(T2 _).symm⟩
theorem BC9 {own:List Own}:AU0 [] own:=⟨own,rfl⟩
theorem U8 {own:List Own}(k:Nat):AU0 (own.take k) own:=⟨own.drop k,(Ak4 k own).symm⟩
theorem DJ3 {base W ext:List Own}(h:W=base++ext):AU0 base W:=⟨ext,h⟩
theorem DJ4 {R:I7}{w:World}{v:Value}{e:TypeId}{sz:Nat}{es:List (List AV)}(h:Own.ok R w (.arr v e sz es)):v.oneCell'=true:=by
  obtain⟨_,_,xs,hown,_⟩:=h;obtain⟨oa,c,rfl,_⟩:=BC5 hown;rfl
theorem O7 {own:List Own}{ops:Array Oper}{o:Oper}{rs:List Oper}{K:I3→Prop}{env:List (Nat×AV)}{v:Value}{e:TypeId}{sz:Nat}{es:List (List AV)}(i:Nat)(hi:own[i]? =some (.arr v e sz es))(k:v.oneCell'=true→S1 P G n ops (o::rs) ⟨own,env⟩ K):S1 P G n ops (o::rs) ⟨own,env⟩ K:=fun w0 R0 R a w hs=>
  k (DJ4 (hs.1.owned _ (C3 hi))) w0 R0 R a w hs
theorem sq_own {own own':List Own}{ops:Array Oper}{o:Oper}{rs:List Oper}{K:I3→Prop}{env:List (Nat×AV)}(h:own=own')(k:S1 P G n ops (o::rs) ⟨own',env⟩ K):S1 P G n ops (o::rs) ⟨own,env⟩ K:=by subst h;exact k
theorem H3 {own own':List Own}{c:Code}{Q:Exit→I3→Prop}{env:List (Nat×AV)}(h:own=own')(k:AWP P G n c Q ⟨own',env⟩):AWP P G n c Q ⟨own,env⟩:=by subst h;exact k
theorem Ba5 {own:List Own}{o:Oper}{E:P3}{t:TypeId}{p:Operand}{b off:Nat}{fs:Array Field}{fd:Field}{k j:Nat}(m:Nat)(ho:o.op= .fieldAddr t p k)(ht:P.underlying t=some (.struct fs))(hk:fs[k]? =some fd)(hs:∀w,(sizeOf fd.type).run P w= .ok (j+1) w)
    (hp:Ev E p (AV.ptr b off)) (hm:off+fd.offset=m):OpW P G n own o E (AV.ptr b m):=by subst hm;exact w_fldB ho ht hk hs hp
def qB (P:Program)(G:Nat→Prop)(n:Nat)(Inv:List Own→Prop)(ops:Array Oper)(i:Nat)(K:P3→List Own→Prop)(E:P3)(W:List Own):Prop:=
  match ops[i]? with
  |none=>K E W
  |some o=>(∃x,OpA P G n W ops o E x∧K (AH1 o.dst x E) W)∨
      (o.guard=none∧∃(α:Type) (ok:α→Prop) (W':α→List Own) (V:α→AV),OpE P G n W ops o E ok W' V∧(∀a,ok a→Inv (W' a))∧∀a,ok a→K (AH1 o.dst (V a) E) (W' a))
theorem DJ5 {Inv:List Own→Prop}{ops:Array Oper}{i:Nat}{E:P3}{W:List Own}{K K':P3→List Own→Prop}(hW:Inv W)(h:∀E W,Inv W→K E W→K' E W)(hh:qB P G n Inv ops i K E W):qB P G n Inv ops i K' E W:=by
  unfold qB at*;split
  ·exact h _ _ hW (by simpa [*]using hh)
  · rename_i o ho
    simp only[ho]at hh;rcases hh with ⟨x,h1,h2⟩|⟨hg,α,ok,W',V,h1,h2,h3⟩
    ·exact .inl ⟨x,h1,h _ _ hW h2⟩
    ·exact .inr ⟨hg,α,ok,W',V,h1,h2,fun a ha=>h _ _ (h2 a ha) (h3 a ha)⟩
def Ae5 (P:Program)(G:Nat→Prop)(n:Nat)(Inv:List Own→Prop)(md:Region.Mode)(ops:Array Oper)(m:Nat)(L:Array Bool→P3→List Own→Prop):Nat→Array Bool→P3→List Own→Prop
  |0,listed,E,W=>L listed E W
  |f+1,listed,E,W=>Region.ready md ops listed≠[]∧∀i∈Region.ready md ops listed,i<m∧qB P G n Inv ops i (Ae5 P G n Inv md ops m L f (listed.setIfInBounds i true)) E W
theorem AT4 {Inv:List Own→Prop} {md:Region.Mode} {ops:Array Oper} {m g:Nat} {L:Array Bool→P3→List Own→Prop} (hdst:∀(i:Nat) (o:Oper),ops[i]? =some o→∀d,o.dst=some d→d<n) {w0:World} {R0 R00:I7} {Q':Exit→Act→World→Prop}
    (hL:∀listed E W R a w,M9 R00 R→X0 G w0 R0 W R w→Aa0 E R a→a.tmps.size=n→a.defers=[]→L listed E W→wpAny P md ops Q' g listed a w):∀(f:Nat) (listed:Array Bool) (E:P3) (W:List Own) (R:I7) (a:Act) (w:World),
    M9 R00 R→X0 G w0 R0 W R w→Aa0 E R a→a.tmps.size=n→a.defers=[]→Ae5 P G n Inv md ops m L f listed E W→wpAny P md ops Q' (f+g) listed a w
  |0,listed,E,W,R,a,w,h1,h2,h3,h4,h5,h=>by rw[Nat.zero_add];exact hL _ _ _ R a w h1 h2 h3 h4 h5 h
  | f + 1,listed,E,W,R,a,w,h1,h2,h3,h4,h5,h=>by
    rw[show f+1+g=(f+g)+1 by omega];refine⟨fun h0=>absurd h0 h.1,fun i hi=> ?_⟩;have hq:=(h.2 i hi).2;unfold qB at hq;unfold wpOp
    cases ho:ops[i]? with
    | none=>
      simp only[ho]at hq;exact AT4 hdst hL f _ E W R a w h1 h2 h3 h4 h5 hq
    | some o=>
      simp only[ho]at hq;have hdo:∀k,o.dst=some k→k<a.tmps.size:=fun k e=>by rw[h4];exact hdst i o ho k e
      rcases hq with ⟨x,hx,hk⟩|⟨hg,α,ok,W',V,hx,_,hk⟩
      · obtain⟨k1,k2⟩:=hx w0 R0 R a w h2 h4 fun t _ y hy=>h3 t y hy
        by_cases hw:Region.wanted o (yielded ops a.tmps)=true
        · simp only[hw,if_true]
          refine .inl (Oper.wp_mono2 (fun a' w' ⟨v,R',e1,e2,e3,e4⟩=> ?_) (fun _ _ _ h=>h.elim) (k1 hw));subst e1;exact AT4 hdst hL f _ (AH1 o.dst x E) W R' _ w' (h1.trans e3) e2 (AQ6 h3 e3 hdo e4) Be2 Be3 hk
        · have hwf:Region.wanted o (yielded ops a.tmps)=false:=by simpa using hw
          simp only[hwf,Bool.false_eq_true,if_false];exact AT4 hdst hL f _ (AH1 o.dst x E) W R _ w h1 h2 (AQ6 h3 (M9.refl _) hdo (k2 hwf)) Be2 Be3 hk
      · have hw:Region.wanted o (yielded ops a.tmps)=true:=Bx9 hg
        simp only[hw,if_true];refine .inl (Oper.wp_mono2 (fun a' w' ⟨x,v,R',e0,e1,e2,e3,e4⟩=> ?_) (fun _ _ _ h=>h.elim) (hx w0 R0 R a w h2 h4 fun t _ y hy=>h3 t y hy));subst e1;exact AT4 hdst hL f _ (AH1 o.dst (V x) E) (W' x) R' _ w' (h1.trans e3) e2 (AQ6 h3 e3 hdo e4) Be2 Be3 (hk x e0)
theorem qB_put {Inv:List Own→Prop}{ops:Array Oper}{j:Nat}{oi oj:Oper}{x:AV}{W:List Own}(hj:ops[j]? =some oj)(hap:oi.apart ops oj=true){K:P3→List Own→Prop}{E:P3}(hW:Inv W)
    (hy:∀W,Inv W→OpA P G n W ops oi E x) (h:qB P G n Inv ops j K (AH1 oi.dst x E) W):
    qB P G n Inv ops j (fun E' W'=>(∀W,Inv W→OpA P G n W ops oi E' x)∧K (AH1 oi.dst x E') W') E W:=by
  obtain⟨h1,h2,h3⟩:=Oper.apart_spec hap;unfold qB at*;simp only[hj]at*;rcases h with ⟨y,hu,hn⟩|⟨hg,α,ok,W',V,hu,hi,hn⟩
  ·exact .inl ⟨y,hu.unupd h1,fun W hW=>(hy W hW).upd h3,by rw[Bn2 h2];exact hn⟩
  ·exact .inr ⟨hg,α,ok,W',V,hu.congr fun t ht=>(AT3 fun e=>h1 t e ht).symm,hi,fun a ha=>⟨fun W hW=>(hy W hW).upd h3,by rw[Bn2 h2];exact hn a ha⟩⟩
theorem Ax9 {Inv:List Own→Prop} {md:Region.Mode} {ops:Array Oper} {m i:Nat} {oi:Oper} {x:AV} {L:Array Bool→P3→List Own→Prop} (hi:ops[i]? =some oi)
    (hs:Region.sinkB md ops m=true) (hc:Region.chainB md ops m=true) (hn:m<ops.size) (hin:i<m)
    (hdone:∀listed E W,L listed E W→∀j∈Region.ready md ops listed,m≤j):
    ∀ (f:Nat) (listed:Array Bool) (E:P3) (W:List Own),HeadInv md ops m listed→Inv W→
      (∀j oj,ops[j]? =some oj→j≠i→listed.getD j true=false→(∀e∈oj.after,Region.binds md e=true→e.on≠i)→oi.apart ops oj=true)→
      i∈Region.ready md ops listed→(∀W,Inv W→OpA P G n W ops oi E x)→
      Ae5 P G n Inv md ops m L f (listed.setIfInBounds i true) (AH1 oi.dst x E) W→Ae5 P G n Inv md ops m L (f+1) listed E W:=by
  have put:∀{K:P3→List Own→Prop} {E:P3} {W:List Own},Inv W→(∀W,Inv W→OpA P G n W ops oi E x)→K (AH1 oi.dst x E) W→qB P G n Inv ops i K E W:=fun hW hy hK=>by
    unfold qB;simp only[hi];exact .inl ⟨x,hy _ hW,hK⟩
  intro f;induction f with
  | zero=>
    intro listed E W inv hW _ hr hy H;have hun:=(mem_ready.1 hr).1;refine⟨fun h=>BU6,fun j hj=> ?_⟩;have hjn:j<m:=by
      rcases Nat.lt_or_ge j m with h|h
      ·exact h
      ·exact absurd hj (tail_waits hs hc hn inv _ i rfl hin hun j h)
    refine⟨hjn,?_⟩;by_cases hji:j=i
    ·subst hji;exact put hW hy H
    · have:=hdone _ _ _ H j (ready_mono hj hji)
      omega
  | succ f ih=>
    intro listed E W inv hW hfree hr hy H;have hun:=(mem_ready.1 hr).1;refine⟨fun h=>BU6,fun j hj=> ?_⟩;have hjn:j<m:=by
      rcases Nat.lt_or_ge j m with h|h
      ·exact h
      ·exact absurd hj (tail_waits hs hc hn inv _ i rfl hin hun j h)
    refine⟨hjn,?_⟩;by_cases hji:j=i
    ·subst hji;exact put hW hy H
    · have h1:=(H.2 j (ready_mono hj hji)).2
      obtain⟨hjun,oj,hoj,hall⟩:=mem_ready.1 hj;have hnot:∀e∈oj.after,Region.binds md e=true→e.on≠i:=fun e he hb heq=>by
        have h1:=hall e he hb;rw[heq,getD_both hun]at h1
        cases h1
      have h2:=qB_put hoj (hfree j oj hoj hji hjun hnot) hW hy h1
      have hfree':∀k ok,ops[k]? =some ok→k≠i→(listed.setIfInBounds j true).getD k true=false→
          (∀e∈ok.after,Region.binds md e=true→e.on≠i)→oi.apart ops ok=true:=fun k ok hk hki hun hno=>by
        refine hfree k ok hk hki ?_ hno;by_cases hjk:j=k
        ·subst hjk;exact hjun
        ·rw[getD_set_ne true hjk]at hun;exact hun
      refine DJ5 hW (fun E' W' hW' h3=>ih (listed.setIfInBounds j true) E' W' (inv.set hj hjn) hW' hfree' (ready_mono hr (Ne.symm hji)) h3.1 ?_) h2;rw[Array.setIfInBounds_comm _ _ hji];exact h3.2
def CX0 (md:Region.Mode)(ops:Array Oper)(g m:Nat):List (Nat×Bool)→Array Bool→Bool
  |[],listed=>Region.seqB md ops g m listed
  |(i,false)::r,listed=>(Region.ready md ops listed).contains i&&Region.free md ops listed i&&Nat.blt i m&&CX0 md ops g m r (listed.setIfInBounds i true)
  |(i,true)::r,listed=>decide (Region.ready md ops listed=[i])&&Nat.blt i m&&CX0 md ops g m r (listed.setIfInBounds i true)
def mixB (md:Region.Mode)(ops:Array Oper)(ord:List (Nat×Bool)):Bool:=
  decide (ord.length<ops.size)&&Region.sinkB md ops ord.length&&Region.chainB md ops ord.length&&CX0 md ops (ops.size-ord.length) ord.length ord (Array.replicate ops.size false)
def BCh (P:Program)(G:Nat→Prop)(n:Nat)(Inv:List Own→Prop)(ops:Array Oper):List (Nat×Bool)→List (Nat×AV)→List Own→(List (Nat×AV)→List Own→Prop)→Prop
  |[],env,W,K=>K env W
  |(i,false)::r,env,W,K=>∃o,ops[i]? =some o∧∃x,(∀W',Inv W'→OpA P G n W' ops o (N4 · env) x)∧BCh P G n Inv ops r (BT7 o.dst x env) W K
  |(i,true)::r,env,W,K=>∃o,ops[i]? =some o∧o.guard=none∧∃(α:Type) (ok:α→Prop) (W':α→List Own) (V:α→AV),OpE P G n W ops o (N4 · env) ok W' V∧(∀a,ok a→Inv (W' a))∧∀a,ok a→BCh P G n Inv ops r (BT7 o.dst (V a) env) (W' a) K
theorem Bg1 {Inv:List Own→Prop}{md:Region.Mode}{ops:Array Oper}{m g:Nat}{K:List (Nat×AV)→List Own→Prop}(hs:Region.sinkB md ops m=true)(hc:Region.chainB md ops m=true)(hn:m<ops.size):
    ∀(l:List (Nat×Bool)) (listed:Array Bool) (env:List (Nat×AV)) (W:List Own),HeadInv md ops m listed→Inv W→
    CX0 md ops g m l listed=true→BCh P G n Inv ops l env W K→
    Ae5 P G n Inv md ops m (fun listed' E W=>Region.seqB md ops g m listed'=true∧∃env',E=(N4 · env')∧K env' W) l.length listed (N4 · env) W
  |[],listed,env,W,_,_,hB,h=>⟨hB,env,rfl,h⟩
  | (i,false)::l,listed,env,W,inv,hW,hB,h=>by
    simp only[CX0,F0]at hB;obtain⟨⟨⟨hr,hf⟩,hlt⟩,hB'⟩:=hB;have hkn:i<m:=Nat.blt_eq.mp hlt;have hr':i∈Region.ready md ops listed:=by simpa using hr
    obtain⟨o,ho,x,hx,hK⟩:=h;refine Ax9 ho hs hc hn hkn (fun listed' E W hL=>seqB_ready hL.1) l.length listed _ W inv hW (Region.free_spec ho hf) hr' hx ?_;rw[←m9];exact Bg1 hs hc hn l _ _ W (inv.set hr' hkn) hW hB' hK
  | (i,true)::l,listed,env,W,inv,hW,hB,h=>by
    simp only[CX0,F0,H6]at hB;obtain⟨⟨hr,hlt⟩,hB'⟩:=hB;have hkn:i<m:=Nat.blt_eq.mp hlt;have hr':i∈Region.ready md ops listed:=by rw[hr];simp
    obtain⟨o,ho,hg,α,ok,W',V,h1,h2,h3⟩:=h;refine⟨fun h0=>BU8,fun j hj=> ?_⟩;rw[hr]at hj;have:j=i:=by simpa using hj
    subst this;refine⟨hkn,?_⟩;unfold qB;simp only[ho];refine .inr ⟨hg,α,ok,W',V,h1,h2,fun a ha=> ?_⟩;rw[←m9];exact Bg1 hs hc hn l _ _ (W' a) (inv.set hr' hkn) (h2 a ha) hB' (h3 a ha)
theorem P1 {id:Nat}{l:List Oper}{Q:Exit→I3→Prop}{env:List (Nat×AV)}{own:List Own}(base:List Own)(ord:List (Nat×Bool))(hm:P.follows .mixedOrders=true)(hB:mixB .any l.toArray ord=true)(hd:BX1 n l=true)(hb:AU0 base own)
  (h:BCh P G n (AU0 base) l.toArray ord env own (fun env' W=>S1 P G n l.toArray (l.drop ord.length) ⟨W,env'⟩ (Q .normal))):AWP P G n (.region id l.toArray true) Q ⟨own,env⟩:=fun w0 R0 R a w ⟨h1,h2,h3,h4⟩=>by
 simp only[mixB,F0,H6]at hB;obtain⟨⟨⟨hn,hs⟩,hc⟩,hlex⟩:=hB;have hn':ord.length<l.length:=by simpa using hn
 have hdl:(l.drop ord.length).length=l.toArray.size-ord.length:=by simp
 have inv0:HeadInv .any l.toArray ord.length (Array.replicate l.toArray.size false):=
  ⟨by simp,fun j oj _ hl=>Bu7,fun t _ ht=>getD_in BU4 (getD_replicate_false _ _)⟩
 have H:=Bg1 (g:=l.toArray.size-ord.length) hs hc hn ord _ env own inv0 hb hlex h;refine wp_region_any hm ?_;have:=AT4 (w0:=w0) (R0:=R0) (R00:=R) (g:=l.toArray.size-ord.length) (Q':=fun e a' w'=>∃s' R',Q e s'∧M9 R R'∧St G n w0 R0 s' R' a' w') (fun i o ho d e=>Ag6 hd i o Be0 d e) (fun listed E W R' a' w' g1 g2 g3 g4 g5 hL=>by
  obtain⟨hL1,env',rfl,hL2⟩:=hL
  have:=wpAny_of_seq (P:=P) (md:= .any) (Q':=fun e a' w'=>∃s' R',Q e s'∧M9 R R'∧St G n w0 R0 s' R' a' w') (l.drop ord.length) ord.length listed a' w' (fun j=>by simp[AS1]) Bu4
   (AK6 (R00:=R) (K:=Q .normal) (fun s' R' a w q r1 r2=>⟨s',R',q,r1,r2⟩) _ (⟨W,env'⟩:I3) R' a' w' g1 ⟨g2,g3,g4,g5⟩ hL2)
  rwa [hdl]at this) _ _ _ own R a _ (M9.refl _) (Af3 h1) h2 h3 h4 H
 rw[show ord.length+(l.toArray.size-ord.length)=l.toArray.size by omega]at this;exact this
section
variable {ops:Array Oper} {i:Nat} {o:Oper} {r:List (Nat×Bool)} {env:List (Nat×AV)} {W:List Own} {base:List Own} {K:List (Nat×AV)→List Own→Prop} {d:Nat} {x:AV}
theorem bc_nil {Inv:List Own→Prop}(h:K env W):BCh P G n Inv ops [] env W K:=h
theorem N0 (ho:ops[i]? =some o)(hg:o.guard=none)(hd:o.dst=some d)(h:∀ext,OpW P G n (base++ext) o (N4 · env) x)(k:BCh P G n (AU0 base) ops r ((d,x)::env) W K):BCh P G n (AU0 base) ops ((i,false)::r) env W K:=
  ⟨o,ho,x,fun W' ⟨ext,e⟩=>by subst e;exact Av6 hg (h ext),by rw[hd];exact k⟩
theorem U2 {Inv:List Own→Prop}{α:Type}{ok:α→Prop}{W':α→List Own}{V:α→AV}(ho:ops[i]? =some o)(hg:o.guard=none)(hd:o.dst=some d)(h:OpE P G n W ops o (N4 · env) ok W' V)(hi:∀a,ok a→Inv (W' a))(k:∀a,ok a→BCh P G n Inv ops r ((d,V a)::env) (W' a) K):BCh P G n Inv ops ((i,true)::r) env W K:=
  ⟨o,ho,hg,α,ok,W',V,h,hi,fun a ha=>by rw[hd];exact k a ha⟩
section
variable {α:Type} {ok:α→Prop} {O:α→List Own} {V:α→AV} {E:P3} {f:FuncId} {args:Array Operand} {tys:Array TypeId} {ps:List Operand} {xs:List AV} {sel rest:List Own}
theorem Au7 {p:Operand}{R:I7}{a:Act}(hev:Ev E p x)(hm:p∈o.op.operands.toList)(he:∀t∈o.looksAt ops,∀y,E t=some y→y.den R (a.tmps.getD t undef)):x.den R (a.eval p):=
  H4 hev hm fun t ht=>he t (Ag5 ht)
theorem S9 (is:List Nat)(ho:o.op= .call {callee:= .value (.func f),args:=args,argTypes:=tys})
    (hc:∀(vs:Array Value) (w:World),(callFunc f vs).run P w= .ok (.enter f vs) w) (hps:args.toList=ps) (hs:K3 P f xs sel ok O V) (he:EvL E ps xs) (hp:pick W is=(sel,rest)):
    OpE P G n W ops o E ok (fun a=>rest++O a) V:=fun w0 R0 R a w h1 h3 h2=>by
  have hcore:=Af5 h1 hp;have hden:=Ao9 (o:=o) (fun t ht=>h2 t (Ag5 ht)) he fun p hp=>by simp[ho,Op.operands,Call.operands];right;rw[←hps]at hp;exact Array.mem_toList_iff.1 hp
  have hrun:(execOp a.eval o).run P w= .ok (.enter f (ps.map a.eval).toArray) w:=by
    have hargs:args.map a.eval=(ps.map a.eval).toArray:=by rw[←hps];cases args;simp
    simp only[execOp,ho,resolve,hargs,show a.eval (.func f)= .func (.func f) #[] #[]from rfl];simp[Deferred.ofValue,invoke,hc]
  unfold Oper.wp;rw[hrun,Oper.upon_enter];refine(hs R w _ hcore.rle hden (fun q hq=>hcore.owned q (AM4 _ hq)) (z9 hcore).sep).mono fun e w' ⟨x,v,R',e0,e1,e2,e3⟩=> ?_;subst e1;exact⟨x,v,R',e0,rfl,AE4 (Ax8 hcore e3) AQ0,AY2 hcore.rle e3.rold,e2⟩
end
end
end
section
variable {P:Program} {G:Nat→Prop} {n:Nat} {own:List Own} {o:Oper} {E:P3}
end
section
variable {P:Program} {G:Nat→Prop} {n:Nat} {own:List Own} {o:Oper} {E:P3}
theorem Au8 {c:Code}{Q:Exit→I3→Prop}{env:List (Nat×AV)}{v:Value}{e:TypeId}{sz:Nat}{es:List (List AV)}(i:Nat)(hi:own[i]? =some (.arr v e sz es))(k1:v= .slice none 0 0→es=[]→AWP P G n c Q ⟨own,env⟩)
  (k2:∀g cap,v= .slice (some ⟨g,0,none⟩) es.length cap→es.length≤cap→cap≤9223372036854775807→AWP P G n c Q ⟨own,env⟩):AWP P G n c Q ⟨own,env⟩:=fun w0 R0 R a w hs=>by
 obtain⟨_,_,xs,hown,_⟩:=hs.1.owned _ (C3 hi);rcases hown.2 with ⟨h1,h2⟩|⟨g,cap,cur,h1,_,_,hn,hm,_⟩
 ·exact k1 h1 (Ak2 h2) w0 R0 R a w hs
 exact k2 g cap h1 hn (by unfold maxLen at hm;omega) w0 R0 R a w hs
abbrev slv (g len cap:Nat):Value:= .slice (some ⟨g,0,none⟩) len cap
section vals
variable {t e:TypeId} {p q q' q'':Operand} {g len cap sz:Nat}
theorem Ay0 {oa:Option Addr}(ho:o.op= .call {callee:= .builtin .len,args:=#[p],argTypes:=#[t]})(ht:P.underlying t=some (.slice e))(hp:Ev E p (AV.is (.slice oa len cap))):OpW P G n own o E (AV.int len):=P7 fun R a w _ he=>by
  have h1:a.eval p=_:=H4 hp AV5 he;have hel:P.elem t=e:=by simp[Program.elem,ht]
  have h2:=run_len_slice (P:=P) w t o.type oa len cap AO1;exact⟨.int .i64 len,by simp only[execOp,ho,resolve,invoke,builtin,AM8,m4,List.map_nil,h1,h2,Sem.run_bind,Sem.run_pure,Result.andThen_ok,goInt],rfl⟩
theorem w_vcap {oa:Option Addr}(ho:o.op= .call {callee:= .builtin .cap,args:=#[p],argTypes:=#[t]})(ht:P.underlying t=some (.slice e))(hp:Ev E p (AV.is (.slice oa len cap))):OpW P G n own o E (AV.int cap):=P7 fun R a w _ he=>by
  have h1:a.eval p=_:=H4 hp AV5 he;have hel:P.elem t=e:=by simp[Program.elem,ht]
  have h2:=run_cap_slice (P:=P) w t o.type oa len cap AO1;exact⟨.int .i64 cap,by simp only[execOp,ho,resolve,invoke,builtin,AM8,m4,List.map_nil,h1,h2,Sem.run_bind,Sem.run_pure,Result.andThen_ok,goInt],rfl⟩
theorem BG5 (g hi cap sz:Nat):sliced (some ⟨g,0,none⟩) 0 hi cap sz=slv g hi cap:=by
  unfold sliced;by_cases hc:cap=0
  ·simp[hc]
  ·simp[hc,Addr.add]
theorem CH5 {hi:Int}(ho:o.op= .slice t p none (some q) none)(ht:P.underlying t=some (.slice e))(hsz:∀w,(sizeOf e).run P w= .ok sz w)(hp:Ev E p (AV.is (slv g len cap)))(hq:Ev E q (AV.int hi))(h0:0≤hi)(h1:hi≤cap):OpW P G n own o E (AV.is (slv g hi.toNat cap)):=P7 fun R a w _ he=>by
  have e1:a.eval p=_:=H4 hp P5 he;have e2:a.eval q= .int .i64 hi:=H4 hq P5 he;have hel:P.elem t=e:=by simp[Program.elem,ht]
  have hr1:=run_slice_h (P:=P) (w:=w) (t:=t) (a:=some ⟨g,0,none⟩) (len:=len) (cap:=cap) AO1 .i64 hi h0 h1;rw[hel,hsz,Result.andThen_ok,BG5]at hr1;exact⟨_,by simp only[execOp,ho,e1,e2,AD8,Option.map_none,run_sliceAt_slice w t _ _ _ _ AO1,hr1,Sem.run_bind,Sem.run_pure,Result.andThen_ok],rfl⟩
theorem AZ2 {lo:Int}(ho:o.op= .slice t p (some q) none none)(ht:P.underlying t=some (.slice e))(hsz:∀w,(sizeOf e).run P w= .ok sz w)(hp:Ev E p (AV.is (slv g len cap)))(hq:Ev E q (AV.int lo))(h0:0≤lo)(h1:lo≤len):OpW P G n own o E (AV.is (sliced (some ⟨g,0,none⟩) lo.toNat len cap sz)):=P7 fun R a w _ he=>by
  have e1:a.eval p=_:=H4 hp P5 he;have e2:a.eval q= .int .i64 lo:=H4 hq P5 he;have hel:P.elem t=e:=by simp[Program.elem,ht]
  have hr1:=run_slice_l (P:=P) (w:=w) (t:=t) (a:=some ⟨g,0,none⟩) (len:=len) (cap:=cap) AO1 .i64 lo h0 h1;rw[hel,hsz,Result.andThen_ok]at hr1;exact⟨_,by simp only[execOp,ho,e1,e2,AD8,Option.map_none,run_sliceAt_slice w t _ _ _ _ AO1,hr1,Sem.run_bind,Sem.run_pure,Result.andThen_ok],rfl⟩
theorem w_vlohi {lo hi:Int}(ho:o.op= .slice t p (some q) (some q') none)(ht:P.underlying t=some (.slice e))(hsz:∀w,(sizeOf e).run P w= .ok sz w)(hp:Ev E p (AV.is (slv g len cap)))(hq:Ev E q (AV.int lo))(hq':Ev E q' (AV.int hi))(h0:0≤lo)(h1:lo≤hi)(h2:hi≤cap):OpW P G n own o E (AV.is (sliced (some ⟨g,0,none⟩) lo.toNat hi.toNat cap sz)):=P7 fun R a w _ he=>by
  have e1:a.eval p=_:=H4 hp P5 he;have e2:a.eval q= .int .i64 lo:=H4 hq P5 he;have e3:a.eval q'= .int .i64 hi:=H4 hq' P5 he;have hel:P.elem t=e:=by simp[Program.elem,ht]
  have hr1:=run_slice_lh (P:=P) (w:=w) (t:=t) (a:=some ⟨g,0,none⟩) (len:=len) (cap:=cap) AO1 .i64 .i64 lo hi h0 h1 h2;rw[hel,hsz,Result.andThen_ok]at hr1;exact⟨_,by simp only[execOp,ho,e1,e2,e3,AD8,Option.map_none,run_sliceAt_slice w t _ _ _ _ AO1,hr1,Sem.run_bind,Sem.run_pure,Result.andThen_ok],rfl⟩
theorem w_v3 {oa:Option Addr}{lo hi mx:Int}(ho:o.op= .slice t p (some q) (some q') (some q''))(ht:P.underlying t=some (.slice e))(hsz:∀w,(sizeOf e).run P w= .ok sz w)(hp:Ev E p (AV.is (.slice oa len cap)))(hq:Ev E q (AV.int lo))(hq':Ev E q' (AV.int hi))(hq'':Ev E q'' (AV.int mx))(h0:0≤lo)(h1:lo≤hi)(h2:hi≤mx)(h3:mx≤cap):OpW P G n own o E AV.any:=P7 fun R a w _ he=>by
  have e1:a.eval p=_:=H4 hp P5 he;have e2:a.eval q= .int .i64 lo:=H4 hq P5 he;have e3:a.eval q'= .int .i64 hi:=H4 hq' P5 he;have e4:a.eval q''= .int .i64 mx:=H4 hq'' P5 he;have hel:P.elem t=e:=by simp[Program.elem,ht]
  have hb:(Instr.sliceBounds true len cap (some (.int .i64 lo)) (some (.int .i64 hi)) (some (.int .i64 mx))).run P w= .ok (lo.toNat,hi.toNat,mx.toNat) w:=by
    have g1:(hi.toNat:Int)=hi:=Int.toNat_of_nonneg qz7;have g2:(mx.toNat:Int)=mx:=Int.toNat_of_nonneg qz7;simp[Instr.sliceBounds,run_sliceBound, *,(by omega:0≤hi),(by omega:0≤mx)]
  have hr1:=run_slice_any (P:=P) (w:=w) (t:=t) (a:=oa) (len:=len) (cap:=cap) AO1 (some (.int .i64 lo)) (some (.int .i64 hi)) (some (.int .i64 mx));rw[hb,Result.andThen_ok,hel,hsz,Result.andThen_ok]at hr1;dsimp only at hr1;exact⟨sliced oa lo.toNat hi.toNat mx.toNat sz,by simp only[execOp,ho,e1,e2,e3,e4,AD8,Option.map_none,run_sliceAt_slice w t _ _ _ _ AO1,hr1,Sem.run_bind,Sem.run_pure,Result.andThen_ok],trivial⟩
end vals
theorem BK8 (w:World)(dT sT ty elem:TypeId){inf:TypeInfo}(g o dLen dCap:Nat)(a:Addr)(sLen sCap:Nat)(cur:Array Value)(t:TypeId)(cs:List Value)
    (hu:P.underlying dT=some (.slice elem)) (hi:P.info? elem=some inf)
    (hg:w.heap[g]? =some (.cells cur t (0,0))) (hn:cs.length=Nat.min sLen dLen*inf.size)
    (hsrc:∀j v,cs[j]? =some v→w.cell? (a.add j)=some v) (hfit:o+cs.length≤cur.size) (h1:∀v∈cs,v.oneCell'=true):
    (Builtin.copy_ #[dT,sT] ty #[.slice (some ⟨g,o,none⟩) dLen dCap,.slice (some a) sLen sCap]).run P w=
      .ok (goInt (Nat.min sLen dLen)) (w.setRow g (cur.toList.take o++cs++cur.toList.drop (o+cs.length)).toArray):=by
  have hl:=run_loadCells_list (P:=P) w a cs hsrc;have hst:=run_storeCells_at P g o t cs 0 cur w hg (by simpa using hfit) h1;simp[Builtin.copy_,run_underlying hu,Builtin.lenOf,Builtin.firstCells,sizeOf,typeInfo,hi,←hn,hl,hst]
def L9 (own:List Own) (E:P3) (q:Operand) (sz:Nat) (fs:List (List AV)):Prop:=
  ∀ (G:Nat→Prop) (w0:World) (R0 R:I7) (a:Act) (w:World),X0 G w0 R0 own R w→(∀t,q= .tmp t→∀y,E t=some y→y.den R (a.tmps.getD t undef))→
    (∀f∈fs,f.length=sz)∧(fs≠[]→∃ad cap vs,a.eval q= .slice (some ad) fs.length cap∧(∀j u,vs[j]? =some u→w.cell? (ad.add j)=some u)∧w5 R vs fs.flatten)
theorem src_list {q:Operand}{sz:Nat}{fs:List (List AV)}(hq:Ev E q (AV.list sz fs)):L9 own E q sz fs:=fun G w0 R0 R a w hc he=>by
  obtain⟨oa,c,e2,_,_,hu,hcell⟩:=hq R a he;refine⟨hu,fun hne=> ?_⟩;obtain⟨ad,rfl,hca⟩:=hcell hne;obtain⟨vs,_,h2,h3⟩:=CH2 (sz:=sz) hc.rle hca;exact⟨ad,c,vs,e2,h2,h3⟩
theorem Am4 {R:I7}{w:World}{g len cap:Nat}{e:TypeId}{sz:Nat}{es:List (List AV)}(h:Own.ok R w (.arr (slv g len cap) e sz es)):len=es.length∧len≤cap∧cap≤maxLen∧(∀x∈es,x.length=sz)∧∃(cur:Array Value) (xs:List Value),w.heap[g]? =some (.cells cur e (0,0))∧cur.size=cap*sz∧cur.toList.take (len*sz)=xs∧xs.length=len*sz∧w5 R xs es.flatten:=by
  obtain⟨_,hu,xs,hown,hd⟩:=h;rcases hown.2 with ⟨h1,_⟩|⟨g',cap',cur,h1,_,hg,hn,hm,hcs,htake⟩
  ·cases h1
  · injection h1 with e1 e2 e3
    injection e1 with e1
    injection e1 with e1
    subst e1;subst e2;subst e3;exact⟨rfl,hn,hm,hu,cur,xs,hg,hcs,htake,hown.1,hd⟩
theorem CR9 {q:Operand}{g len cap k:Nat}{e:TypeId}{sz:Nat}{es:List (List AV)}(i:Nat)(hi:own[i]? =some (.arr (slv g len cap) e sz es))(hq:Ev E q (AV.is (sliced (some ⟨g,0,none⟩) k len cap sz))):L9 own E q sz (es.drop k):=fun G w0 R0 R a w hc he=>by
  have e1:a.eval q=_:=hq R a he;obtain⟨hl,hlc,_,hu,cur,xs,hg,hcs,htake,hxl,hd⟩:=Am4 (hc.owned _ (C3 hi));refine⟨fun f hf=>hu f (List.mem_of_mem_drop hf),fun hne=> ?_⟩;have hk:k<es.length:=by
    rcases Nat.lt_or_ge k es.length with h|h
    ·exact h
    ·exact absurd (r9 h) hne
  refine⟨⟨g,k*sz,none⟩,cap-k,xs.drop (k*sz),?_,fun j u hu'=> ?_,?_⟩
  · rw[e1];unfold sliced
    rw[D0 qz7,AD8,addr_add,Nat.zero_add,AB9,hl]
  · rw[AS1]at hu'
    have hjl:k*sz+j<len*sz:=by rw[←hxl];exact(G1.1 hu').1
    rw[addr_add];rw[←htake,AD6 hjl,Array.getElem?_toList]at hu';simp[World.cell?,hg,hu']
  · rw[AV6 k hu]
    exact⟨by simp[hd.1],fun j v x hv hx=>hd.2 _ v x (by rw[AS1]at hv;exact hv) (by rw[AS1]at hx;exact hx)⟩
theorem Ah0 {q:Operand}{g len cap:Nat}{e:TypeId}{sz:Nat}{es:List (List AV)}(i:Nat)(hi:own[i]? =some (.arr (slv g len cap) e sz es))(hq:Ev E q (AV.is (slv g len cap))):L9 own E q sz es:=by
  have:=CR9 (k:=0) i hi (by rw[BG5];exact hq)
  rwa [List.drop_zero]at this
theorem BG6 {g k m cap sz:Nat}(h:k<m)(hc:m≤cap):sliced (some ⟨g,0,none⟩) k m cap sz= .slice (some ⟨g,k*sz,none⟩) (m-k) (cap-k):=by
  unfold sliced;rw[D0 qz7,AD8,addr_add,Nat.zero_add]
theorem Bo0 {sz k:Nat}{es fs:List (List AV)}(hu:∀e∈es,e.length=sz)(hf:∀f∈fs,f.length=sz):(es.take k++fs++es.drop (k+fs.length)).flatten=AO8 es.flatten (k*sz) fs.flatten:=by
  rw[BA4,BA4,AJ4 k hu,AV6 (k+fs.length) hu];unfold AO8;rw[w7 hf,Nat.add_mul]
theorem BD0 {ops:Array Oper} {rest:List Oper} {env:List (Nat×AV)} {K:I3→Prop} {t e:TypeId} {p q:Operand} {d sz g len cap k m:Nat} {inf:TypeInfo} {es fs:List (List AV)} (i:Nat) (hg:o.guard=none) (ho:o.op= .call {callee:= .builtin .copy,args:=#[p,q],argTypes:=#[t,t]}) (hd:o.dst=some d) (hn:Nat.blt d n=true)
    (ht:P.underlying t=some (.slice e)) (hinf:P.info? e=some inf) (hsz:inf.size=sz) (hp:Ev (N4 · env) p (AV.is (sliced (some ⟨g,0,none⟩) k m cap sz))) (hq:L9 own (N4 · env) q sz fs) (hi:own[i]? =some (.arr (slv g len cap) e sz es))
    (hk:k+fs.length≤len) (hm:k+fs.length≤m) (hmc:m≤cap) (hne:fs≠[]) (c:S1 P G n ops rest ⟨own.set i (.arr (slv g len cap) e sz (es.take k++fs++es.drop (k+fs.length))),(d,AV.int fs.length)::env⟩ K):S1 P G n ops (o::rest) ⟨own,env⟩ K:=
  AF8 hg fun w0 R0 R a w ⟨h1,h2,h3,h4⟩=>by
    have e1:a.eval p=_:=AR6 (s:=⟨own,env⟩) (o:=o) hp h2;obtain⟨hfu,hsrc⟩:=hq G w0 R0 R a w h1 (fun t _ y hy=>h2 t y hy);obtain⟨ad,sc,vs,e2,hcell,hden⟩:=hsrc hne;have hpos:0<fs.length:=List.length_pos_iff.2 hne;have hok:=h1.owned _ (C3 hi);obtain⟨hl,hlc,hcm,hu,cur,xs,hgw,hcs,htake,hxl,hdc⟩:=Am4 hok;rw[BG6 qz7 hmc]at e1;have hvl:vs.length=fs.length*sz:=by rw[hden.1,w7 hfu]
    have hmin:Nat.min fs.length (m-k)=fs.length:=Nat.min_eq_left qz7;have hone:∀u∈vs,u.oneCell'=true:=fun u hmu=>by
      obtain⟨j,hj⟩:=i5 hmu;have hjl:j<fs.flatten.length:=by rw[←hden.1];exact(G1.1 hj).1
      exact(hden.2 j u _ hj (Q5 hjl)).2
    have hb1:k*sz+fs.length*sz≤len*sz:=by rw[←Nat.add_mul];exact AD0 sz hk
    have hb2:len*sz≤cap*sz:=AD0 sz hlc;have hr:=BK8 (P:=P) w t t o.type e g (k*sz) (m-k) (cap-k) ad fs.length sc cur e vs ht hinf hgw (by rw[hmin,hsz];exact hvl) hcell (by rw[hvl,hcs];omega) hone;rw[hmin]at hr;have hex:(execOp a.eval o).run P w= .ok (.value (.int .i64 fs.length)) (w.setRow g (cur.toList.take (k*sz)++vs++cur.toList.drop (k*sz+vs.length)).toArray):=by
      simp only[execOp,ho,resolve,invoke,builtin,Sem.run_bind,Sem.run_pure,Result.andThen_ok,AM8,m4,List.map_nil,e1,e2,hr,goInt]
    unfold Oper.wp;rw[hex,Oper.upon_value,hd];have hel:(es.take k++fs++es.drop (k+fs.length)).length=len:=by simp;omega
    refine⟨_,R,c,M9.refl _,Ag7 h1 hi rfl rfl ⟨hok.1,fun z hz=> ?_,xs.take (k*sz)++vs++xs.drop (k*sz+vs.length),⟨?_,.inr ⟨g,cap,_,by rw[hel],E4 _,setRow_heap w g _ _ e _ hgw,by rw[hel];exact hlc,hcm,?_,?_⟩⟩,?_⟩ (AM6 w g _),AO9 h2 (M9.refl _) Au4 rfl,by rw[size_put];exact h3,by rw[r7];exact h4⟩
    · rcases y6.1 hz with hz|hz
      · rcases y6.1 hz with hz|hz
        ·exact hu z (AZ9 hz)
        ·exact hfu z hz
      ·exact hu z (List.mem_of_mem_drop hz)
    ·rw[hel];simp only[I2,H0,AB9,hxl,hvl];omega
    ·simp only[List.size_toArray,I2,H0,AB9,AH9,hvl,hcs];omega
    · rw[hel,←htake]
      exact BY4 (by rw[AH9,hcs];exact hb2) (by rw[hvl];exact hb1)
    · rw[Bo0 hu hfu]
      exact Ar3 hdc hden (by rw[w7 hu,w7 hfu,←hl];exact hb1)
theorem Co6 {ops:Array Oper} {rest:List Oper} {env:List (Nat×AV)} {K:I3→Prop} {t e:TypeId} {p q:Operand} {d sz g len cap k:Nat} {inf:TypeInfo} {es:List (List AV)} (i:Nat) (hg:o.guard=none) (ho:o.op= .call {callee:= .builtin .copy,args:=#[p,q],argTypes:=#[t,t]}) (hd:o.dst=some d) (hn:Nat.blt d n=true)
    (ht:P.underlying t=some (.slice e)) (hinf:P.info? e=some inf) (hsz:inf.size=sz) (hp:Ev (N4 · env) p (AV.is (sliced (some ⟨g,0,none⟩) (k+1) (len+1) cap sz))) (hq:Ev (N4 · env) q (AV.is (sliced (some ⟨g,0,none⟩) k (len+1) cap sz))) (hi:own[i]? =some (.arr (slv g len cap) e sz es))
    (hk:k<len) (hc:len+1≤cap) (c:∀j,S1 P G n ops rest ⟨own.set i (.arr (slv g (len+1) cap) e sz (es.take (k+1)++es.drop k)),(d,AV.int j)::env⟩ K):S1 P G n ops (o::rest) ⟨own,env⟩ K:=
  AF8 hg fun w0 R0 R a w ⟨h1,h2,h3,h4⟩=>by
    have e1:a.eval p=_:=AR6 (s:=⟨own,env⟩) (o:=o) hp h2;have e2:a.eval q=_:=AR6 (s:=⟨own,env⟩) (o:=o) hq h2;have hok:=h1.owned _ (C3 hi);obtain⟨hl,hlc,hcm,hu,cur,xs,hgw,hcs,htake,hxl,hdc⟩:=Am4 hok;rw[BG6 qz7 hc]at e1 e2;have hmin:Nat.min (len+1-k) (len+1-(k+1))=len-k:=by
      show min (len+1-k) (len+1-(k+1))=len-k
      omega
    have hb1:(k+1)*sz+(len-k)*sz=(len+1)*sz:=by rw[←Nat.add_mul];congr 1;omega
    have hb2:(len+1)*sz≤cap*sz:=AD0 sz hc;have hb3:(k+1)*sz≤len*sz:=AD0 sz qz7;have hb4:len*sz≤cap*sz:=AD0 sz hlc;have hvl:(xs.drop (k*sz)).length=(len-k)*sz:=by rw[AB9,hxl,Nat.sub_mul]
    have hone:∀u∈xs.drop (k*sz),u.oneCell'=true:=fun u hmu=>by
      obtain⟨j,hj⟩:=i5 (List.mem_of_mem_drop hmu);have hjl:j<es.flatten.length:=by rw[←hdc.1];exact(G1.1 hj).1
      exact(hdc.2 j u _ hj (Q5 hjl)).2
    have hcell:∀j u,(xs.drop (k*sz))[j]? =some u→w.cell? ((⟨g,k*sz,none⟩:Addr).add j)=some u:=fun j u hu'=>by
      rw[AS1]at hu';have hjl:k*sz+j<len*sz:=by rw[←hxl];exact(G1.1 hu').1
      rw[addr_add];rw[←htake,AD6 hjl,Array.getElem?_toList]at hu';simp[World.cell?,hgw,hu']
    have hr:=BK8 (P:=P) w t t o.type e g ((k+1)*sz) (len+1-(k+1)) (cap-(k+1)) ⟨g,k*sz,none⟩ (len+1-k) (cap-k) cur e (xs.drop (k*sz)) ht hinf hgw (by rw[hmin,hsz];exact hvl) hcell (by rw[hvl,hcs];omega) hone;rw[hmin]at hr;have hex:(execOp a.eval o).run P w= .ok (.value (.int .i64 ((len-k:Nat):Int))) (w.setRow g (cur.toList.take ((k+1)*sz)++xs.drop (k*sz)++cur.toList.drop ((k+1)*sz+(xs.drop (k*sz)).length)).toArray):=by
      simp only[execOp,ho,resolve,invoke,builtin,Sem.run_bind,Sem.run_pure,Result.andThen_ok,AM8,m4,List.map_nil,e1,e2,hr,goInt]
    unfold Oper.wp;rw[hex,Oper.upon_value,hd];have hel:(es.take (k+1)++es.drop k).length=len+1:=by simp;omega
    refine⟨_,R,c _,M9.refl _,Ag7 h1 hi rfl rfl ⟨hok.1,fun z hz=> ?_,xs.take ((k+1)*sz)++xs.drop (k*sz),⟨?_,.inr ⟨g,cap,_,by rw[hel],E4 _,setRow_heap w g _ _ e _ hgw,by rw[hel];exact hc,hcm,?_,?_⟩⟩,?_⟩ (AM6 w g _),AO9 h2 (M9.refl _) Au4 rfl,by rw[size_put];exact h3,by rw[r7];exact h4⟩
    · rcases y6.1 hz with hz|hz
      ·exact hu z (AZ9 hz)
      ·exact hu z (List.mem_of_mem_drop hz)
    ·rw[hel,I2,hvl,H0,hxl];omega
    · simp only[List.size_toArray,I2,H0,AB9,AH9,hcs,hxl]
      have:len*sz-k*sz=(len-k)*sz:=(Nat.sub_mul _ _ _).symm;omega
    · rw[hel]
      show List.take ((len+1)*sz) (cur.toList.take ((k+1)*sz)++xs.drop (k*sz)++cur.toList.drop ((k+1)*sz+(xs.drop (k*sz)).length))=_
      have hl2:(cur.toList.take ((k+1)*sz)++xs.drop (k*sz)).length=(len+1)*sz:=by rw[I2,hvl,H0,AH9,hcs];omega
      rw[←hl2,List.take_left',←htake,List.take_take,Nat.min_eq_left hb3];rfl
    · rw[BA4,AJ4 (k+1) hu,AV6 k hu]
      refine Am2 ⟨by simp[hdc.1],fun j u x hu' hx=> ?_⟩ ⟨by simp[hdc.1],fun j u x hu' hx=> ?_⟩
      · by_cases hj:j<(k+1)*sz
        ·rw[AD6 hj]at hu' hx;exact hdc.2 j u x hu' hx
        ·rw[AZ8 AL1]at hu';cases hu'
      ·rw[AS1]at hu' hx;exact hdc.2 _ u x hu' hx
theorem zero_den {R:I7}{z:Value}{sz:Nat}(hzs:z.cells.size=sz)(h1z:z.cells.toList.all Value.oneCell'=true)(hpos:0<sz)(m:Nat):w5 R (Builtin.zeroCells z.cells m).toList (List.replicate m (z.cells.toList.map m7)).flatten:=by
  have hlz:=BC7 z sz hzs m;have hu:∀e∈List.replicate m (z.cells.toList.map m7),e.length=sz:=fun e he=>by rw[(AE0.1 he).2];simp[hzs]
  refine⟨by rw[hlz.1,w7 hu];simp,fun j u x hu' hx=> ?_⟩;have hjl:j<m*sz:=by rw[←hlz.1];exact(G1.1 hu').1
  have hjm:j % sz<sz:=Nat.mod_lt _ hpos;have hjd:j / sz<m:=Nat.div_lt_of_lt_mul (by rw[Nat.mul_comm];exact hjl);have hjj:j / sz*sz+j % sz=j:=by rw[Nat.mul_comm];exact Nat.div_add_mod j sz
  have hzj:z.cells.toList[j % sz]? =some (z.cells.toList[j % sz]'qz108):=Q5 _;have hx2:=AH6 hu (i:=j / sz) (e:=z.cells.toList.map m7) Ck3 (k:=j % sz) (x:=m7 (z.cells.toList[j % sz]'qz108)) (by rw[a8,hzj];rfl);rw[hjj,hx]at hx2;injection hx2 with hx2
  have hu2:u=z.cells.toList[j % sz]'qz108:=by
    rw[hlz.2 j u hu',getElem!_pos z.cells _ (by rw[hzs];exact hjm)];simp
  rw[hx2,hu2];exact⟨AZ0 R _,V7.1 h1z _ X1⟩
theorem CH6 {ops:Array Oper} {rest:List Oper} {env:List (Nat×AV)} {K:I3→Prop} {t tn e:TypeId} {p q:Operand} {kn:IntKind} {d sz by' g len cap j m:Nat} {inf:TypeInfo} {z:Value} {es:List (List AV)} (i:Nat) (hg:o.guard=none) (ho:o.op= .call {callee:= .builtin .append,args:=#[p,q],argTypes:=#[t,tn]}) (hd:o.dst=some d) (hn:Nat.blt d n=true)
    (ht:P.underlying t=some (.slice e)) (htn:P.underlying tn=some (.int kn)) (hinf:P.info? e=some inf) (hz:inf.zero=some z) (hsz:inf.size=sz) (hby:inf.bytes=by') (hzs:z.cells.size=sz) (hpos':Nat.ble 1 sz=true) (h1z:z.cells.toList.all Value.oneCell'=true) (hp:Ev (N4 · env) p (AV.is (slv g j cap))) (hq:Ev (N4 · env) q (AV.int m)) (hi:own[i]? =some (.arr (slv g len cap) e sz es))
    (hj:j≤len) (hm:0<m) (hc:cap<j+m) (hlen:(j+m)*by'≤140737488355328) (hlen2:j+m≤9223372036854775807) (k:∀g' cap',j+m≤cap'→S1 P G n ops rest ⟨.arr (slv g' (j+m) cap') e sz (es.take j++List.replicate m (z.cells.toList.map m7))::own,(d,AV.is (slv g' (j+m) cap'))::env⟩ K):S1 P G n ops (o::rest) ⟨own,env⟩ K:=
  AF8 hg fun w0 R0 R a w ⟨h1,h2,h3,h4⟩=>by
    have hpos:=AT8 hpos';have e1:a.eval p=_:=AR6 (s:=⟨own,env⟩) (o:=o) hp h2;have e2:a.eval q= .int .i64 m:=AR6 (s:=⟨own,env⟩) (o:=o) hq h2;obtain⟨hl,hlc,hcm,hu,cur,xs,hgw,hcs,htake,hxl,hdc⟩:=Am4 (h1.owned _ (C3 hi));have hb1:j*sz≤len*sz:=AD0 sz hj;have hold:(Builtin.firstCells inf.size j (slv g j cap)).run P w.drew= .ok (xs.take (j*sz)).toArray w.drew:=by
      have:=run_loadCells_list (P:=P) w.drew ⟨g,0,none⟩ (xs.take (j*sz)) (fun i u hu'=>by
        have hil:i<j*sz:=by have:=(G1.1 hu').1;rw[H0]at this;omega
        rw[AD6 hil,←htake,AD6 qz7,Array.getElem?_toList]at hu';rw[addr_add,Nat.zero_add];show w.cell? _=_
        simp[World.cell?,hgw,hu'])
      rw[H0,hxl,Nat.min_eq_left hb1]at this;simpa [Builtin.firstCells,hsz]using this
    have hr:=Lib.run_append_grow_zeros (P:=P) w t tn o.type e inf z .i64 kn ht htn hinf hz (some ⟨g,0,none⟩) j cap _ hold m hm qz7 hc qz7 (by
      have:m*by'≤(j+m)*by':=AD0 _ qz7;rw[hby];omega) (by rw[hby];exact growslice_fits hc hlen)
    have hex:(execOp a.eval o).run P w= .ok (.value (slv w.heap.size (j+m) (grownCap w (j+m) cap e))) (w.drew.alloc (.cells ((xs.take (j*sz)).toArray++Builtin.zeroCells z.cells m++Builtin.zeroCells z.cells (grownCap w (j+m) cap e-(j+m))) e)):=by
      simp only[execOp,ho,resolve,invoke,builtin,Sem.run_bind,Sem.run_pure,Result.andThen_ok,AM8,m4,List.map_nil,e1,e2,hr]
    unfold Oper.wp;rw[hex,Oper.upon_value,hd];have hge:=grownCap_ge w (j+m) cap e;have hcm2:grownCap w (j+m) cap e≤maxLen:=grownCap_le_maxLen w (j+m) cap e (by unfold maxLen;omega);have hl1:(xs.take (j*sz)).length=j*sz:=by rw[H0,hxl];omega
    refine⟨_,R,k _ _ hge,M9.refl _,Ad3 (sz:=sz) (m:=j+m) (cap:=grownCap w (j+m) cap e) (Af3 h1) AL1 hge hcm2 ?_ (fun x hx=> ?_) ?_,AO9 h2 (M9.refl _) Au4 rfl,by rw[size_put];exact h3,by rw[r7];exact h4⟩
    · simp only[Array.size_append,List.size_toArray,size_zeroCells,hl1,hzs,←Nat.add_mul]
      congr 1;omega
    · rcases y6.1 hx with hx|hx
      ·exact hu x (AZ9 hx)
      ·rw[(AE0.1 hx).2];simp[hzs]
    · have hsz3:((xs.take (j*sz)).toArray++Builtin.zeroCells z.cells m).toList.length=(j+m)*sz:=by simp only[AH9,Array.size_append,List.size_toArray,size_zeroCells,hl1,hzs,Nat.add_mul]
      rw[Array.toList_append,List.take_left' hsz3,Array.toList_append,BA4];refine Am2 ?_ (zero_den hzs h1z qz7 m);rw[AJ4 j hu];exact⟨by simp[hdc.1],fun i u x hu' hx=>by
        by_cases hij:i<j*sz
        ·simp only[AD6 hij]at hu' hx;exact hdc.2 i u x hu' hx
        ·rw[AZ8 AL1]at hu';cases hu'⟩
theorem By1 {f:FuncId}{fn:Func}{t e tb:TypeId}{p q:Operand}{tys:Array TypeId}{gv cv g len cap k m sz:Nat}{lv:Nat}{es vs:List (List AV)}(iv i:Nat)(ho:o.op= .call {callee:= .value (.func f),args:=#[p,q],argTypes:=tys})(hf:P.funcs[f]? =some fn)(hname:(fn.name== "runtime.NumGoroutine")=false) (hb:fn.body.isNone=true) (hnx:Extern.findNext fn=none) (he:Extern.find fn=some (Extern.SlicesOverlaps.overlaps #[t,t] #[tb]))
    (ht:P.underlying t=some (.slice e)) (hsz:∀w,(sizeOf e).run P w= .ok sz w) (hp:Ev E p (AV.is (slv gv lv cv))) (hq:Ev E q (AV.is (sliced (some ⟨g,0,none⟩) k m cap sz))) (hiv:own[iv]? =some (.arr (slv gv lv cv) e sz vs)) (hi:own[i]? =some (.arr (slv g len cap) e sz es)) (hne:Nat.beq iv i=false) (hcap:0<cap) (hpos:Nat.ble 1 sz=true):
    OpW P G n own o E (AV.bool false):=AL2 fun w0 R0 R a w hcr hen=>by
  have e1:a.eval p=_:=H4 hp AV5 hen;have e2:a.eval q=_:=H4 hq AV5 hen;have hb1:=AT8 hpos;have hij:iv≠i:=fun h=>by rw[h,Nat.beq_refl]at hne;cases hne
  obtain⟨_,_,_,_,curv,xsv,hgv,hcv,_⟩:=Am4 (hcr.owned _ (C3 hiv));obtain⟨_,_,_,_,cur,xs,hg,hcs,_⟩:=Am4 (hcr.owned _ (C3 hi));have hgne:gv≠g:=fun h=>Bu9 hcr.sep hiv hi hij (b:=gv) rfl (by rw[h];rfl);obtain⟨ad,lb,cb,hsl,hadb⟩:∃ad lb cb,sliced (some ⟨g,0,none⟩) k m cap sz= .slice (some ad) lb cb∧ad.block=g:=by
    unfold sliced;by_cases h:cap=k
    ·exact⟨_,_,_,by rw[D9 h],rfl⟩
    ·exact⟨_,_,_,by rw[D0 h,AD8],by rw[addr_add]⟩
  rw[hsl]at e2;have hkB:cap*sz≠0:=Nat.mul_ne_zero qz7 qz7;have h3:=Lib.run_overlaps_apart (P:=P) w t tb e ht sz hsz ⟨gv,0,none⟩ ad lv cv lb cb (by rw[hadb];exact hgne) e e curv.size cur.size (by simp[World.shape?,hgv]) (by simp[World.shape?,hadb,hg]) (by rw[hcs];exact hkB) (by simp[World.frozen?,hgv]) (by simp[World.frozen?,hgv]);have h4:=run_callFunc_extern (P:=P) hf hname hb hnx he #[slv gv lv cv,.slice (some ad) lb cb] w;rw[h3,Result.andThen_ok]at h4;refine⟨.bool false,?_,rfl⟩;simp only[execOp,ho,resolve,AM8,m4,List.map_nil,e1,e2,show a.eval (.func f)= .func (.func f) #[] #[]from rfl];simp[Deferred.ofValue,invoke,h4]
theorem DX9 {ops:Array Oper} {rest:List Oper} {env:List (Nat×AV)} {K:I3→Prop} {t e:TypeId} {p q:Operand} {d sz g len cap k j:Nat} {inf:TypeInfo} {es:List (List AV)} (i:Nat) (hg:o.guard=none) (ho:o.op= .call {callee:= .builtin .append,args:=#[p,q],argTypes:=#[t,t]}) (hd:o.dst=some d) (hn:Nat.blt d n=true)
    (ht:P.underlying t=some (.slice e)) (hinf:P.info? e=some inf) (hsz:inf.size=sz) (hp:Ev (N4 · env) p (AV.is (slv g k cap))) (hq:Ev (N4 · env) q (AV.is (sliced (some ⟨g,0,none⟩) j len cap sz))) (hi:own[i]? =some (.arr (slv g len cap) e sz es)) (hk:k≤j) (hj:j≤len)
    (c:S1 P G n ops rest ⟨own.set i (.arr (slv g (k+(len-j)) cap) e sz (es.take k++es.drop j)),(d,AV.is (slv g (k+(len-j)) cap))::env⟩ K):S1 P G n ops (o::rest) ⟨own,env⟩ K:=
  AF8 hg fun w0 R0 R a w ⟨h1,h2,h3,h4⟩=>by
    have e1:a.eval p=_:=AR6 (s:=⟨own,env⟩) (o:=o) hp h2;have e2:a.eval q=_:=AR6 (s:=⟨own,env⟩) (o:=o) hq h2;have hok:=h1.owned _ (C3 hi);obtain⟨hl,hlc,hcm,hu,cur,xs,hgw,hcs,htake,hxl,hdc⟩:=Am4 hok;obtain⟨ad,cb,hsl,hadb⟩:∃ad cb,sliced (some ⟨g,0,none⟩) j len cap sz= .slice (some ad) (len-j) cb∧(j<len→ad=⟨g,j*sz,none⟩):=by
      unfold sliced;by_cases h:cap=j
      ·exact⟨_,_,by rw[D9 h],fun h'=>by omega⟩
      ·exact⟨_,_,by rw[D0 h,AD8],fun _=>by rw[addr_add,Nat.zero_add]⟩
    rw[hsl]at e2;have hb0:k*sz≤j*sz:=AD0 sz hk;have hb1:j*sz≤len*sz:=AD0 sz hj;have hb4:len*sz≤cap*sz:=AD0 sz hlc;have hvl:(xs.drop (j*sz)).length=(len-j)*sz:=by rw[AB9,hxl,Nat.sub_mul]
    have hsum:(len-j)*sz=len*sz-j*sz:=Nat.sub_mul _ _ _;have hone:∀u∈xs.drop (j*sz),u.oneCell'=true:=fun u hmu=>by
      obtain⟨i',hj'⟩:=i5 (List.mem_of_mem_drop hmu);have hjl:i'<es.flatten.length:=by rw[←hdc.1];exact(G1.1 hj').1
      exact(hdc.2 i' u _ hj' (Q5 hjl)).2
    have hcell:∀i' u,(xs.drop (j*sz))[i']? =some u→w.cell? (ad.add i')=some u:=fun i' u hu'=>by
      rw[AS1]at hu';have hjl:j*sz+i'<len*sz:=by rw[←hxl];exact(G1.1 hu').1
      have hjlt:j<len:=by
        rcases Nat.lt_or_ge j len with h|h
        ·exact h
        ·have:=AD0 sz h;omega
      rw[hadb hjlt,addr_add];rw[←htake,AD6 hjl,Array.getElem?_toList]at hu';simp[World.cell?,hgw,hu']
    have hr:=run_append_room (P:=P) w t o.type e inf ht hinf g k cap cur hgw ad (len-j) cb (xs.drop (j*sz)) (by rw[hvl,hsz]) hcell hone qz7 (by rw[hvl,hcs,hsz];omega);rw[hsz]at hr;have hex:(execOp a.eval o).run P w= .ok (.value (slv g (k+(len-j)) cap)) (w.setRow g (cur.toList.take (k*sz)++xs.drop (j*sz)++cur.toList.drop (k*sz+(xs.drop (j*sz)).length)).toArray):=by
      simp only[execOp,ho,resolve,invoke,builtin,Sem.run_bind,Sem.run_pure,Result.andThen_ok,AM8,m4,List.map_nil,e1,e2,hr]
    unfold Oper.wp;rw[hex,Oper.upon_value,hd];have hel:(es.take k++es.drop j).length=k+(len-j):=by simp;omega
    have hmul:(k+(len-j))*sz=k*sz+(len-j)*sz:=Nat.add_mul _ _ _;refine⟨_,R,c,M9.refl _,Ag7 h1 hi rfl rfl ⟨hok.1,fun z hz=> ?_,xs.take (k*sz)++xs.drop (j*sz),⟨?_,.inr ⟨g,cap,_,by rw[hel],E4 _,setRow_heap w g _ _ e _ hgw,by rw[hel];omega,hcm,?_,?_⟩⟩,?_⟩ (AM6 w g _),AO9 h2 (M9.refl _) Au4 rfl,by rw[size_put];exact h3,by rw[r7];exact h4⟩
    · rcases y6.1 hz with hz|hz
      ·exact hu z (AZ9 hz)
      ·exact hu z (List.mem_of_mem_drop hz)
    ·rw[hel,I2,hvl,H0,hxl,hmul];omega
    ·simp only[List.size_toArray,I2,H0,AB9,AH9,hcs,hxl];omega
    · rw[hel]
      show List.take ((k+(len-j))*sz) (cur.toList.take (k*sz)++xs.drop (j*sz)++cur.toList.drop (k*sz+(xs.drop (j*sz)).length))=_
      have hl2:(cur.toList.take (k*sz)++xs.drop (j*sz)).length=(k+(len-j))*sz:=by rw[I2,hvl,H0,AH9,hcs,hmul];omega
      rw[←hl2,List.take_left',←htake,List.take_take,Nat.min_eq_left qz7];rfl
    · rw[BA4,AJ4 k hu,AV6 j hu]
      refine Am2 ⟨by simp[hdc.1],fun i' u x hu' hx=> ?_⟩ ⟨by simp[hdc.1],fun i' u x hu' hx=> ?_⟩
      · by_cases hj':i'<k*sz
        ·rw[AD6 hj']at hu' hx;exact hdc.2 i' u x hu' hx
        ·rw[AZ8 AL1]at hu';cases hu'
      ·rw[AS1]at hu' hx;exact hdc.2 _ u x hu' hx
theorem DY0 {ops:Array Oper} {rs:List Oper} {env:List (Nat×AV)} {K:I3→Prop} {t e:TypeId} {p:Operand} {z:Value} {sz g len cap lo hi:Nat} {es:List (List AV)} (i:Nat) (hg:o.guard=none) (ho:o.op= .call {callee:= .builtin .clear,args:=#[p],argTypes:=#[t]}) (hd:o.dst=none)
    (ht:P.underlying t=some (.slice e)) (hz:∀w,(zeroValue e).run P w= .ok z w) (hzs:z.cells.size=sz) (h1z:z.cells.toList.all Value.oneCell'=true) (hpos:Nat.ble 1 sz=true) (hp:Ev (N4 · env) p (AV.is (sliced (some ⟨g,0,none⟩) lo hi cap sz))) (hi':own[i]? =some (.arr (slv g len cap) e sz es)) (h1:len≤lo) (h2:lo≤hi) (h3:hi≤cap)
    (c:S1 P G n ops rs ⟨own,env⟩ K):S1 P G n ops (o::rs) ⟨own,env⟩ K:=
  AF8 hg fun w0 R0 R a w ⟨h1',h2',h3',h4'⟩=>by
    have e1:a.eval p=_:=AR6 (s:=⟨own,env⟩) (o:=o) hp h2';have hok:=h1'.owned _ (C3 hi');obtain⟨hl,hlc,hcm,hu,cur,xs,hgw,hcs,htake,hxl,hdc⟩:=Am4 hok;have hb1:=AT8 hpos;by_cases hlh:lo=hi
    · have hex:(execOp a.eval o).run P w= .ok (.value (.tuple #[])) w:=by
        subst hlh;simp only[execOp,ho,resolve,invoke,builtin,AM8,m4,List.map_nil,e1,sliced,Nat.sub_self,Sem.run_bind,Sem.run_pure,Result.andThen_ok];by_cases hc:cap=lo<;>simp[Builtin.clear_,run_underlying ht,hc]
      unfold Oper.wp;rw[hex,Oper.upon_value,hd];exact⟨_,R,c,M9.refl _,h1',h2',h3',h4'⟩
    · obtain⟨m,hm⟩:∃m,hi-lo=m+1:=⟨hi-lo-1,by omega⟩
      rw[BG6 qz7 h3,hm]at e1;have hlz:=BC7 z sz hzs (m+1);have hone:∀u∈(Builtin.zeroCells z.cells (m+1)).toList,u.oneCell'=true:=fun u hu=>by
        obtain⟨j,hj⟩:=i5 hu;rw[hlz.2 j u hj,getElem!_pos z.cells _ (by rw[hzs];exact Nat.mod_lt _ qz7)];exact V7.1 h1z _ X1
      have hmul:lo*sz+(m+1)*sz=hi*sz:=by rw[←Nat.add_mul];congr 1;omega
      have hmc:hi*sz≤cap*sz:=AD0 sz h3;have hml:len*sz≤lo*sz:=AD0 sz h1;have hst:=run_storeCells_at (P:=P) g (lo*sz) e (Builtin.zeroCells z.cells (m+1)).toList 0 cur w hgw (by rw[hlz.1,hcs];omega) hone;simp only[Nat.add_zero,hlz.1]at hst;have hex:(execOp a.eval o).run P w= .ok (.value (.tuple #[])) (w.setRow g (cur.toList.take (lo*sz)++(Builtin.zeroCells z.cells (m+1)).toList++cur.toList.drop (lo*sz+(m+1)*sz)).toArray):=by
        simp only[execOp,ho,resolve,invoke,builtin,AM8,m4,List.map_nil,e1,Sem.run_bind,Sem.run_pure,Result.andThen_ok];simp[Builtin.clear_,run_underlying ht,hz,hst]
      unfold Oper.wp;rw[hex,Oper.upon_value,hd];have hset:own.set i (.arr (slv g len cap) e sz es)=own:=by
        obtain⟨hlt,heq⟩:=G1.1 hi';rw[←heq];exact List.set_getElem_self hlt
      obtain⟨cur',hcur'⟩:∃cur':Array Value,cur'=(cur.toList.take (lo*sz)++(Builtin.zeroCells z.cells (m+1)).toList++cur.toList.drop (lo*sz+(m+1)*sz)).toArray:=⟨_,rfl⟩;have hs1:cur'.size=cap*sz:=by
        rw[hcur'];simp only[List.size_toArray,I2,H0,AB9,hlz.1,AH9,hcs];omega
      have hs2:cur'.toList.take (len*sz)=xs:=by
        rw[hcur',←htake];show List.take (len*sz) (cur.toList.take (lo*sz)++(Builtin.zeroCells z.cells (m+1)).toList++cur.toList.drop (lo*sz+(m+1)*sz))=_
        rw[o7,List.take_append_of_le_length (by rw[H0,AH9,hcs];omega),List.take_take,Nat.min_eq_left hml]
      rw[←hcur'];have hcore:=Ag7 (y:= .arr (slv g len cap) e sz es) h1' hi' rfl rfl ⟨hok.1,hu,xs,⟨by rw[hxl,hl],.inr ⟨g,cap,cur',by rw[hl],E4 _,setRow_heap w g _ _ e _ hgw,by rw[←hl];exact hlc,hcm,hs1,by rw[←hl];exact hs2⟩⟩,hdc⟩ (AM6 w g cur');rw[hset]at hcore;exact⟨_,R,c,M9.refl _,hcore,h2',h3',h4'⟩
end
section
variable {P:Program} {G:Nat→Prop} {n:Nat} {own:List Own} {o:Oper} {E:P3}
theorem AC3 {ops:Array Oper}{t e:TypeId}{sz:Nat}(ho:o.op= .buildSlice t 0 #[])(ht:P.underlying t=some (.slice e))(hs:∀w,(sizeOf e).run P w= .ok sz w)
    :OpE P G n own ops o E (fun _:Value=>True) (fun v'=>own++[.arr v' e sz []]) (fun v'=>AV.is v'):=
  fun w0 R0 R a w h1 h3 h2=>by
    have hex:(execOp a.eval o).run P w= .ok (.value (.slice (some ⟨w.heap.size,0,none⟩) 0 0)) (w.alloc (.cells #[] e)):=by
      simp[execOp,ho,Instr.buildSlice,run_underlying ht,hs,newRow,Instr.fill,go_sem]
    unfold Oper.wp;rw[hex,Oper.upon_value];exact⟨_,_,R,trivial,rfl,AE4 (Ad3 h1 rfl (K9 _) (E4 _) X1 (fun x hx=>by simp at hx) ⟨by simp,fun i v x h=>by simp at h⟩) (AQ0 (l₁:=[_])),M9.refl _,rfl⟩
theorem Ay1 {ops:Array Oper} {t e:TypeId} {len sz:Nat} {z:Value} {ps:Array (Nat×Operand)} {asl:List (Nat×List AV)} {cs:List AV} {es:List (List AV)} (ho:o.op= .buildSlice t len ps) (ht:P.underlying t=some (.slice e)) (hsz:∀w,(sizeOf e).run P w= .ok sz w) (hz:∀w,(zeroValue e).run P w= .ok z w)
    (hl:Nat.ble (len*sz) 1000=true) (hl2:Nat.ble len 1000=true) (hzs:z.cells.size=sz) (h1':z.cells.toList.all Value.oneCell'=true) (hp:EvP E ps.toList asl) (hc:Ah9 (fun i=>some (i*sz,sz)) ((List.range (len*sz)).map fun i=>m7 (z.cells[i % z.cells.size]!)) asl=some cs) (hes:chunks sz len cs=es)
    :OpE P G n own ops o E (fun _:Value=>True) (fun v'=>own++[.arr v' e sz es]) (fun v'=>AV.is v'):=
  fun w0 R0 R a w h1 h3 h2=>by
    obtain⟨k1,k2⟩:=Bv0 (o:=o) (fun t ht=>h2 t (Ag5 ht)) hp fun p hpm=>by simp[ho,Op.operands];exact⟨p.1,by simpa using hpm⟩
    have hone:∀i,i<len*sz→(z.cells[i % z.cells.size]!).oneCell'=true:=fun i hi=>by
      have hpos:0<z.cells.size:=by
        rw[hzs];rcases Nat.eq_zero_or_pos sz with h0|h0
        ·subst h0;simp at hi
        ·exact h0
      rw[getElem!_pos z.cells _ (Nat.mod_lt _ hpos)];exact V7.1 h1' _ X1
    obtain⟨cells',f2,f3⟩:=Bf5 (R:=R) (place:=fun i=>some (i*sz,sz)) _ asl ((Array.range (len*sz)).map fun i=>z.cells[i % z.cells.size]!) _ cs ⟨by simp,fun i v y hv hy=>by
      rw[Array.toList_map,a8,Array.toList_range]at hv;rw[a8]at hy;by_cases hi:i<len*sz
      · rw[List.getElem?_range hi]at hv hy
        simp only[AD8,Option.some.injEq]at hv hy;rw[←hv,←hy];exact⟨AZ0 R _,hone i hi⟩
      ·rw[AZ8 AL1]at hv;cases hv⟩ k1 k2 hc
    have hlen:=AT8 hl;have h5:cells'.toList.length=len*sz:=by
      rw[f3.1,CY9 asl _ cs hc];simp
    have hch:=BY5 sz len cs (by rw[←f3.1];exact h5);have h6:(ps.map fun (i,x)=>(i,a.eval x)).toList=ps.toList.map fun p=>(p.1,a.eval p.2):=by simp
    have hrun:(execOp a.eval o).run P w= .ok (.value (.slice (some ⟨w.heap.size,0,none⟩) len len)) (w.alloc (.cells cells' e)):=by
      have hcap:¬(len*sz>2 ^ 24):=by omega
      by_cases h0:len*sz=0
      · have h7:(Array.range (len*sz)).map (fun x=>(#[]:Array Value)[x % (#[]:Array Value).size]!)=(Array.range (len*sz)).map fun i=>z.cells[i % z.cells.size]! :=by rw[h0];simp
        rw[←h7]at f2;simp only[execOp,ho,Instr.buildSlice,run_underlying ht,hsz,hcap,if_false,Sem.run_bind,Sem.run_pure,Result.andThen_ok,Sem.run_ite,D9 h0,h6,f2,newRow,run_newObj,World.alloc_eq]
      ·simp only[execOp,ho,Instr.buildSlice,run_underlying ht,hsz,hcap,if_false,Sem.run_bind,Sem.run_pure,Result.andThen_ok,Sem.run_ite,D0 h0,hz,h6,f2,newRow,run_newObj,World.alloc_eq]
    unfold Oper.wp;rw[hrun,Oper.upon_value];have hlz:es.length=len:=by rw[←hes,X4]
    refine⟨_,_,R,trivial,rfl,AE4 (Ad3 (sz:=sz) (m:=len) (cap:=len) (es:=es) h1 hlz (K9 _) (by have:=AT8 hl2;unfold maxLen;omega) (by rw[←AH9];exact h5) (by rw[←hes];exact hch.2) ?_) (AQ0 (l₁:=[_])),M9.refl _,rfl⟩;rw[S7 (by rw[h5];exact K9 _),←hes,hch.1];exact f3
end
end Go.AV
namespace Go.AV
section
variable {P:Program} {G:Nat→Prop} {n:Nat} {own:List Own}
theorem U1 {t:List Own}{env:List (Nat×AV)}(k:Nat)(h:(own.drop k).Perm t):Le G n ⟨own,env⟩ ⟨own.take k++t,env⟩:=
  le_perm (by
    have:=List.Perm.append_left (own.take k) h;rw[Ak4]at this;exact this)
theorem r8 {t:List Own}:t.Perm (t++[]):=by rw[T2]
theorem O4 {t:List Own}:(t++[]).Perm t:=by rw[T2]
theorem Bg2 {sel rest:List Own}{is:List Nat}(h:pick own is=(sel,rest)):own.Perm (sel++rest):=by
  induction is generalizing own sel rest with
  |nil=>unfold pick at h;injection h with h1 h2;subst h1;subst h2;exact List.Perm.refl _
  | cons i is ih=>
    unfold pick at h
    cases hi:own[i]? with
    |none=>rw[hi]at h;injection h with h1 h2;subst h1;subst h2;exact List.Perm.refl _
    | some x=>
      rw[hi]at h;injection h with h1 h2;subst h1;subst h2
      exact(Bf8 hi).trans (List.Perm.cons x (ih rfl))
section
variable {o:Oper} {E:P3}
theorem L8 {ops:Array Oper} {t e:TypeId} {p q:Operand} {sz by' m:Nat} {inf:TypeInfo} {z:Value} (ho:o.op= .makeSlice t p q)
    (ht:P.underlying t=some (.slice e)) (hinf:P.info? e=some inf) (hz:inf.zero=some z) (hsz:inf.size=sz) (hby:inf.bytes=by') (hzs:z.cells.size=sz) (hpos:Nat.ble 1 sz=true) (h1':z.cells.toList.all Value.oneCell'=true) (hp:Ev E p (AV.int m)) (hq:Ev E q (AV.int m))
    (hlen:m*by'≤281474976710656) (hlen2:m≤281474976710656):OpE P G n own ops o E (fun _:Value=>True) (fun v'=>own++[.arr v' e sz (List.replicate m (z.cells.toList.map m7))]) (fun v'=>AV.is v'):=
  fun w0 R0 R a w h1 h3 h2=>by
    have e1:a.eval p= .int .i64 m:=Au7 (ops:=ops) hp P5 h2;have e2:a.eval q= .int .i64 m:=Au7 (ops:=ops) hq P5 h2;have hb1:=AT8 hpos;have hr:=run_make (P:=P) w t e inf z ht hinf hz .i64 .i64 (m:Int) (m:Int) qz7 qz7 qz177 qz7;simp only[o5]at hr;have hex:(execOp a.eval o).run P w= .ok (.value (.slice (some ⟨w.heap.size,0,none⟩) m m)) (w.alloc (.cells (madeCells z.cells (m*inf.size)) e)):=by
      simp only[execOp,ho,e1,e2,hr,Sem.run_bind,Sem.run_pure,Result.andThen_ok]
    unfold Oper.wp;rw[hex,Oper.upon_value];have hms:(madeCells z.cells (m*inf.size)).size=m*sz:=by rw[size_madeCells,hsz]
    refine⟨_,_,R,trivial,rfl,AE4 (Ad3 h1 X1 (K9 _) (by unfold maxLen;omega) hms (fun x hx=> ?_) ⟨?_,fun j v x hv hx=> ?_⟩) (AQ0 (l₁:=[_])),M9.refl _,rfl⟩
    ·rw[(AE0.1 hx).2];simp[hzs]
    · rw[w7 (sz:=sz) (fun x hx=>by rw[(AE0.1 hx).2];simp[hzs])]
      simp[hms]
    · have hj:j<m*sz:=by
        have:=(G1.1 hx).1;rw[w7 (sz:=sz) (fun x hx=>by rw[(AE0.1 hx).2];simp[hzs])]at this;simpa using this
      have hjm:j % sz<sz:=Nat.mod_lt _ qz7;have hjj:j / sz*sz+j % sz=j:=by rw[Nat.mul_comm];exact Nat.div_add_mod j sz
      have hjd:j / sz<m:=Nat.div_lt_of_lt_mul (by rw[Nat.mul_comm];exact hj);have hzj:z.cells.toList[j % sz]? =some (z.cells.toList[j % sz]'qz108):=Q5 _;have hx2:=AH6 (sz:=sz) (es:=List.replicate m (z.cells.toList.map m7)) (fun x hx=>by rw[(AE0.1 hx).2];simp[hzs]) (i:=j / sz) (e:=z.cells.toList.map m7) Ck3 (k:=j % sz) (x:=m7 (z.cells.toList[j % sz]'qz108)) (by rw[a8,hzj];rfl);rw[hjj,hx]at hx2;injection hx2 with hx2
      rw[AD6 hj]at hv;have hv2:v=z.cells.toList[j % sz]'qz108:=by
        unfold madeCells at hv;rw[hsz]at hv;simp only[Array.toList_map,Array.toList_range,a8,List.getElem?_range hj,AD8,Option.some.injEq]at hv;rw[←hv,hzs,getElem!_pos z.cells _ (by rw[hzs];exact hjm)];simp
      rw[hx2,hv2];exact⟨AZ0 R _,V7.1 h1' _ X1⟩
end
section
variable {α:Type} {ok:α→Prop} {O:α→List Own} {V:α→AV} {o:Oper}
theorem DY1 {ops:Array Oper}{rs:List Oper}{env:List (Nat×AV)}{K:I3→Prop}{d:Nat}{f:FuncId}{args:Array Operand}{tys:Array TypeId}{ps:List Operand}{xs:List AV}{sel rest:List Own}{own':α→List Own}(hg:o.guard=none)(ho:o.op= .call {callee:= .value (.func f),args:=args,argTypes:=tys})(hd:o.dst=some d)(hn:Nat.blt d n=true)
    (hc:∀(vs:Array Value) (w:World),(callFunc f vs).run P w= .ok (.enter f vs) w) (hps:args.toList=ps) (hp:own.Perm (sel++rest)) (hs:K3 P f xs sel ok O V) (he:EvL (N4 · env) ps xs) (hq:∀a,(O a++rest).Perm (own' a))
    (k:∀a,ok a→S1 P G n ops rs ⟨own' a,(d,V a)::env⟩ K):S1 P G n ops (o::rs) ⟨own,env⟩ K:=
  AF8 hg fun w0 R0 R a w ⟨h1,h2,h3,h4⟩=>by
    have hcore:=AE4 h1 hp;have hden:=Ao9 (o:=o) (fun t _ y hy=>h2 t y hy) he fun p hp=>by simp[ho,Op.operands,Call.operands];right;rw[←hps]at hp;exact Array.mem_toList_iff.1 hp
    have hrun:(execOp a.eval o).run P w= .ok (.enter f (ps.map a.eval).toArray) w:=by
      have hargs:args.map a.eval=(ps.map a.eval).toArray:=by rw[←hps];cases args;simp
      simp only[execOp,ho,resolve,hargs,show a.eval (.func f)= .func (.func f) #[] #[]from rfl];simp[Deferred.ofValue,invoke,hc]
    unfold Oper.wp;rw[hrun,Oper.upon_enter];refine(hs R w _ hcore.rle hden (fun q hq=>hcore.owned q (AM4 _ hq)) (z9 hcore).sep).mono fun e w' ⟨x,v,R',e0,e1,e2,e3⟩=> ?_;subst e1;have hR:=AY2 hcore.rle e3.rold;refine⟨⟨own' x,(d,V x)::env⟩,R',k x e0,hR,AE4 (Ax8 hcore e3) (hq x),?_,by rw[size_put];exact h3,by rw[r7];exact h4⟩;rw[hd];exact AO9 h2 hR Au4 e2
theorem AC6 {ops:Array Oper}{E:P3}{rest:List Own}(m:Nat)(h:OpE P G n own ops o E ok (fun a=>rest++O a) V):OpE P G n own ops o E ok (fun a=>rest.take m++(O a++rest.drop m)) V:=fun w0 R0 R a w h1 h2 h3=>
  Oper.wp_mono2 (fun a' w' ⟨x,v,R',e0,e1,e2,e3,e4⟩=>⟨x,v,R',e0,e1,AE4 e2 (by
    show (rest++O x).Perm (rest.take m++(O x++rest.drop m))
    conv=>lhs;rw[←Ak4 m rest]
    rw[o7];exact List.Perm.append_left _ AQ0),e3,e4⟩) (fun _ _ _ h=>h) (h w0 R0 R a w h1 h2 h3)
theorem J2 {ops:Array Oper}{E:P3}{W':α→List Own}{g:α→Value}{e:TypeId}{sz:Nat}{es:List (List AV)}(i:Nat)(hg:∀a,(W' a)[i]? =some (.arr (g a) e sz es))(h:OpE P G n own ops o E ok W' V):OpE P G n own ops o E (fun a=>ok a∧(g a).oneCell'=true) W' V:=fun w0 R0 R a w h1 h2 h3=>
  Oper.wp_mono2 (fun a' w' ⟨x,v,R',e0,e1,e2,e3,e4⟩=>⟨x,v,R',⟨e0,DJ4 (e2.owned _ (C3 (hg x)))⟩,e1,e2,e3,e4⟩) (fun _ _ _ h=>h) (h w0 R0 R a w h1 h2 h3)
theorem S4 {ops:Array Oper}{E:P3}{t:TypeId}{z:Value}(ho:o.op= .alloc t)
    (hz:∀w,(zeroValue t).run P w= .ok z w) (h1':z.cells.toList.all Value.oneCell'=true):OpE P G n own ops o E (fun _:Nat=>True) (fun b=>own++[.box b t (z.cells.toList.map m7)]) (fun b=>AV.ptr b 0):=
  fun w0 R0 R a w h1 h3 h2=>by
    have hrun:(execOp a.eval o).run P w= .ok (.value (.pointer (some ⟨w.heap.size,0,none⟩))) (w.alloc (.cells z.cells.toList.toArray t)):=by
      simp only[execOp,ho,Instr.alloc,newVar,newRow,hz,Array.toArray_toList,Sem.run_bind,Sem.run_pure,Result.andThen_ok,run_newObj,World.alloc_eq]
    unfold Oper.wp;rw[hrun,Oper.upon_value];exact⟨w.heap.size,_,R,trivial,rfl,AE4 (Bf4 h1 ⟨by simp,fun i v y hv hy=>by
      rw[a8,hv]at hy;simp at hy;subst hy;exact⟨AZ0 R v,V7.1 h1' v (C3 hv)⟩⟩) (AQ0 (l₁:=[_])),M9.refl _,rfl⟩
theorem By2 {o:Oper}{ops:Array Oper}{E:P3}{t t':TypeId}{p q:Operand}{b off:Nat}{cs ys:List AV}{x:AV}(i:Nat)(ho:o.op= .store t p q)(hd:o.dst=none)
    (hp:Ev E p (AV.ptr b off)) (hq:Ev E q x) (hx:AM1 x ys) (hi:own[i]? =some (.box b t' cs)) (hs:∀w,(sizeOf t).run P w= .ok ys.length w) (hl:off+ys.length≤cs.length):OpE P G n own ops o E (fun _:Unit=>True) (fun _=>own.set i (.box b t' (AO8 cs off ys))) (fun _=>AV.int 0):=
  fun w0 R0 R a w h1 h3 h2=>by
    have e1:a.eval p= .pointer (some ⟨b,off,none⟩):=Au7 (ops:=ops) hp P5 h2;have e2:=hx R _ (Au7 (ops:=ops) hq P5 h2);obtain⟨hR,vs,hb,hdc⟩:=h1.owned _ (C3 hi);have hsz:(a.eval q).cells.size=ys.length:=by rw[←AH9];exact e2.1
    have hst:=BY3 (P:=P) (t:=t) (off:=off) (u:=a.eval q) hb (by rw[hsz];exact hs w) (by rw[hsz,hdc.1];exact hl) (fun u hu=>by
      obtain⟨j,hj⟩:=i5 hu;have hjl:j<ys.length:=by rw[←e2.1];exact(G1.1 hj).1
      exact(e2.2 j u _ hj (Q5 hjl)).2)
    have hrun:(execOp a.eval o).run P w= .ok .skip (w.setRow b (vs.take off++(a.eval q).cells.toList++vs.drop (off+(a.eval q).cells.size)).toArray):=by
      simp only[execOp,ho,e1,hst,Sem.run_bind,Sem.run_pure,Result.andThen_ok]
    unfold Oper.wp;rw[hrun,Oper.upon_skip,hd];refine⟨(),.int .i64 0,R,trivial,rfl,Ag7 h1 hi rfl rfl ⟨hR,_,setRow_heap w b _ _ t' _ hb,?_⟩ (AM6 w b _),M9.refl _,rfl⟩;rw[←AH9];exact Ar3 hdc e2 hl
theorem AB5 {ops:Array Oper}{E:P3}{t t':TypeId}{p q:Operand}{b:Nat}{cs ys:List AV}{x:AV}(i:Nat)(ho:o.op= .store t p q)(hd:o.dst=none)
    (hp:Ev E p (AV.ptr b 0)) (hq:Ev E q x) (hx:AM1 x ys) (hi:own[i]? =some (.box b t' cs)) (hs:∀w,(sizeOf t).run P w= .ok ys.length w) (hl':Nat.beq ys.length cs.length=true):OpE P G n own ops o E (fun _:Unit=>True) (fun _=>own.set i (.box b t' ys)) (fun _=>AV.int 0):=by
  have e:=Nat.eq_of_beq_eq_true hl';have h:=By2 (n:=n) (P:=P) (G:=G) (ops:=ops) i ho hd hp hq hx hi hs qz7;rw[CH1 e]at h;exact h
theorem sq_eff0 {o:Oper}{ops:Array Oper}{rest:List Oper}{env:List (Nat×AV)}{K:I3→Prop}{α:Type}{ok:α→Prop}{W':α→List Own}{V:α→AV}(hg:o.guard=none)(hd:o.dst=none)(h:OpE P G n own ops o (N4 · env) ok W' V)(k:∀a,ok a→S1 P G n ops rest ⟨W' a,env⟩ K):S1 P G n ops (o::rest) ⟨own,env⟩ K:=
  AF8 hg fun w0 R0 R a w ⟨h1,h2,h3,h4⟩=>Oper.wp_mono2 (fun a' w' ⟨x,v,R',e0,e1,e2,e3,e4⟩=>by
    subst e1;rw[hd];exact⟨_,R',k x e0,e3,e2,h2.mono e3,h3,h4⟩) (fun _ _ _ h=>h) (h w0 R0 R a w h1 h3 fun t _ y hy=>h2 t y hy)
theorem CZ0 {ops:Array Oper}{o:Oper}{rest:List Oper}{env:List (Nat×AV)}{K:I3→Prop}{t t':TypeId}{p q:Operand}{b off:Nat}{cs ys:List AV}{x:AV}(i:Nat)(hg:o.guard=none)(ho:o.op= .store t p q)(hd:o.dst=none)
    (hp:Ev (N4 · env) p (AV.ptr b off)) (hq:Ev (N4 · env) q x) (hx:AM1 x ys) (hi:own[i]? =some (.box b t' cs)) (hs:∀w,(sizeOf t).run P w= .ok ys.length w) (hl':Nat.ble (off+ys.length) cs.length=true)
    (k:S1 P G n ops rest ⟨own.set i (.box b t' (AO8 cs off ys)),env⟩ K):S1 P G n ops (o::rest) ⟨own,env⟩ K:=
  sq_eff0 hg hd (By2 i ho hd hp hq hx hi hs (AT8 hl')) fun _ _=>k
theorem N2 {ops:Array Oper}{o:Oper}{rest:List Oper}{env:List (Nat×AV)}{K:I3→Prop}{t t':TypeId}{p q:Operand}{b off:Nat}{cs:List AV}{x y:AV}(i:Nat)(hg:o.guard=none)(ho:o.op= .store t p q)(hd:o.dst=none)
    (hp:Ev (N4 · env) p (AV.ptr b off)) (hq:Ev (N4 · env) q x) (hx:AM1 x [y]) (hi:own[i]? =some (.box b t' cs)) (hs:∀w,(sizeOf t).run P w= .ok 1 w) (hl':Nat.ble (off+1) cs.length=true)
    (k:S1 P G n ops rest ⟨own.set i (.box b t' (cs.set off y)),env⟩ K):S1 P G n ops (o::rest) ⟨own,env⟩ K:=
  CZ0 i hg ho hd hp hq hx hi hs hl' (by rw[DN5 (AT8 hl')];exact k)
theorem DN8 {ops:Array Oper}{o:Oper}{rest:List Oper}{env:List (Nat×AV)}{K:I3→Prop}{t t':TypeId}{p q:Operand}{b:Nat}{cs ys:List AV}{x:AV}(i:Nat)(hg:o.guard=none)(ho:o.op= .store t p q)(hd:o.dst=none)
    (hp:Ev (N4 · env) p (AV.ptr b 0)) (hq:Ev (N4 · env) q x) (hx:AM1 x ys) (hi:own[i]? =some (.box b t' cs)) (hs:∀w,(sizeOf t).run P w= .ok ys.length w) (hl':Nat.beq ys.length cs.length=true)
    (k:S1 P G n ops rest ⟨own.set i (.box b t' ys),env⟩ K):S1 P G n ops (o::rest) ⟨own,env⟩ K:=
  have e:=Nat.eq_of_beq_eq_true hl'
  CZ0 i hg ho hd hp hq hx hi hs (by rw[Nat.ble_eq];omega) (by rw[CH1 e];exact k)
theorem Av9 {ops:Array Oper}{rs:List Oper}{env:List (Nat×AV)}{K:I3→Prop}{d:Nat}{f:FuncId}{args:Array Operand}{tys:Array TypeId}{ps:List Operand}{xs:List AV}{s1 r1:List Own}(is:List Nat)(m j:Nat)(B D:List Own)(NT:α→List Own)(hg:o.guard=none)(ho:o.op= .call {callee:= .value (.func f),args:=args,argTypes:=tys})(hd:o.dst=some d)(hn:Nat.blt d n=true)
    (hc:∀(vs:Array Value) (w:World),(callFunc f vs).run P w= .ok (.enter f vs) w) (hps:args.toList=ps) (hp:pick own is=(s1,r1)) (hB:(r1.drop m).Perm (B++D)) (hs:K3 P f xs (s1++B) ok O V) (he:EvL (N4 · env) ps xs) (hN:∀a,((O a).drop j++D).Perm (NT a))
    (k:∀a,ok a→S1 P G n ops rs ⟨(O a).take j++(r1.take m++NT a),(d,V a)::env⟩ K):S1 P G n ops (o::rs) ⟨own,env⟩ K:=by
  refine DY1 (sel:=s1++B) (rest:=r1.take m++D) (own':=fun a=>(O a).take j++(r1.take m++NT a)) hg ho hd hn hc hps ?_ hs he (fun a=> ?_) k
  · refine(Bg2 hp).trans ?_
    have h1:r1.Perm (r1.take m++(B++D)):=by
      have:=List.Perm.append_left (r1.take m) hB
      rwa [Ak4]at this
    refine(List.Perm.append_left s1 h1).trans ?_;rw[o7];refine List.Perm.append_left s1 ?_;rw[←o7,←o7];exact List.Perm.append_right D AQ0
  · have h1:(O a++(r1.take m++D)).Perm ((O a).take j++(r1.take m++((O a).drop j++D))):=by
      conv=>lhs;rw[←Ak4 j (O a)]
      rw[o7];refine List.Perm.append_left _ ?_;rw[←o7,←o7];exact List.Perm.append_right D AQ0
    exact h1.trans (List.Perm.append_left _ (List.Perm.append_left _ (hN a)))
theorem M2 {ops:Array Oper}{rs:List Oper}{env:List (Nat×AV)}{K:I3→Prop}{d:Nat}{f:FuncId}{args:Array Operand}{tys:Array TypeId}{ps:List Operand}{xs:List AV}{s1 r1:List Own}(is:List Nat)(m j:Nat)(B:List Own)(NT:α→List Own)(hg:o.guard=none)(ho:o.op= .call {callee:= .value (.func f),args:=args,argTypes:=tys})(hd:o.dst=some d)(hn:Nat.blt d n=true)
    (hc:∀(vs:Array Value) (w:World),(callFunc f vs).run P w= .ok (.enter f vs) w) (hps:args.toList=ps) (hp:pick own is=(s1,r1)) (hs:K3 P f xs (s1++B) ok O V) (he:EvL (N4 · env) ps xs) (hN:∀a,((O a).drop j++[]).Perm (NT a))
    (k:∀a,ok a→S1 P G n ops rs ⟨(O a).take j++(r1.take m++NT a),(d,V a)::env⟩ K) (hB:r1.drop m=B:=by exact rfl):S1 P G n ops (o::rs) ⟨own,env⟩ K:=
  Av9 is m j B [] NT hg ho hd hn hc hps hp (by rw[T2];exact hB▸List.Perm.refl _) hs he hN k
theorem retGT {fn:Func}{s:I3}{sel rest:List Own}(is:List Nat)(m:Nat)(B D:List Own)(x:α)(hx:ok x)(hp:pick s.own is=(sel,rest))(hB:(rest.drop m).Perm (B++D))(ho:O x=sel++B)(h:∀w0 R0 R a w,St G n w0 R0 s R a w→∃v,(results fn a.tmps).run P w= .ok v w∧(V x).den R v):I5 P G n fn s ok O V:=fun w0 R0 R a w hs=>by
  obtain⟨v,h1,h2⟩:=h w0 R0 R a w hs;refine⟨x,v,R,hx,h1,h2,M9.refl _,?_⟩;rw[ho];refine z9 (b:=rest.take m++D) (AE4 hs.1 ?_);refine(Bg2 hp).trans ?_;have h1:rest.Perm (rest.take m++(B++D)):=by
    have:=List.Perm.append_left (rest.take m) hB
    rwa [Ak4]at this
  refine(List.Perm.append_left sel h1).trans ?_;rw[o7];refine List.Perm.append_left sel ?_;rw[←o7,←o7];exact List.Perm.append_right D AQ0
theorem H8 {fn:Func}{s:I3}{sel rest:List Own}(is:List Nat)(m:Nat)(B:List Own)(x:α)(hx:ok x)(hp:pick s.own is=(sel,rest))(ho:O x=sel++B)(h:∀w0 R0 R a w,St G n w0 R0 s R a w→∃v,(results fn a.tmps).run P w= .ok v w∧(V x).den R v)(hB:rest.drop m=B:=by exact rfl):I5 P G n fn s ok O V:=
  retGT is m B [] x hx hp (by rw[T2];exact hB▸List.Perm.refl _) ho h
end
end
inductive OT where
  |nil
  |pure (i:Nat) (t:OT)
  |e1 (i:Nat) (t:OT)
  |e2 (i:Nat) (t:OT) (j:Nat) (u:OT)
def OT.deep :OT→Nat→Bool
  | .nil,0=>true
  | .pure _ t,f+1=>t.deep f
  | .e1 _ t,f+1=>t.deep f
  | .e2 _ t _ u,f+1=>t.deep f&&u.deep f
  |_,_=>false
def BA9 (md:Region.Mode)(ops:Array Oper)(g m:Nat):OT→Array Bool→Bool
  | .nil,listed=>Region.seqB md ops g m listed
  | .pure i r,listed=>(Region.ready md ops listed).contains i&&Region.free md ops listed i&&Nat.blt i m&&BA9 md ops g m r (listed.setIfInBounds i true)
  | .e1 i r,listed=>decide (Region.ready md ops listed=[i])&&Nat.blt i m&&BA9 md ops g m r (listed.setIfInBounds i true)
  | .e2 i r j u,listed=>decide (Region.ready md ops listed=[i,j])&&Nat.blt i m&&Nat.blt j m&&BA9 md ops g m r (listed.setIfInBounds i true)&&BA9 md ops g m u (listed.setIfInBounds j true)
def treeB (md:Region.Mode)(ops:Array Oper)(m:Nat)(ord:OT):Bool:=
  decide (m<ops.size)&&ord.deep m&&Region.sinkB md ops m&&Region.chainB md ops m&&BA9 md ops (ops.size-m) m ord (Array.replicate ops.size false)
section
variable {P:Program} {G:Nat→Prop} {n:Nat}
def AY0 (P:Program)(G:Nat→Prop)(n:Nat)(Inv:List Own→Prop)(ops:Array Oper)(i:Nat)(env:List (Nat×AV))(W:List Own)(K:List (Nat×AV)→List Own→Prop):Prop:=
  ∃o,ops[i]? =some o∧o.guard=none∧∃(α:Type) (ok:α→Prop) (W':α→List Own) (V:α→AV),OpE P G n W ops o (N4 · env) ok W' V∧(∀a,ok a→Inv (W' a))∧∀a,ok a→K (BT7 o.dst (V a) env) (W' a)
def BT (P:Program)(G:Nat→Prop)(n:Nat)(Inv:List Own→Prop)(ops:Array Oper):OT→List (Nat×AV)→List Own→(List (Nat×AV)→List Own→Prop)→Prop
  | .nil,env,W,K=>K env W
  | .pure i r,env,W,K=>∃o,ops[i]? =some o∧∃x,(∀W',Inv W'→OpA P G n W' ops o (N4 · env) x)∧BT P G n Inv ops r (BT7 o.dst x env) W K
  | .e1 i r,env,W,K=>AY0 P G n Inv ops i env W fun env' W'=>BT P G n Inv ops r env' W' K
  | .e2 i r j u,env,W,K=>(AY0 P G n Inv ops i env W fun env' W'=>BT P G n Inv ops r env' W' K)∧AY0 P G n Inv ops j env W fun env' W'=>BT P G n Inv ops u env' W' K
theorem BI6 {Inv:List Own→Prop}{md:Region.Mode}{ops:Array Oper}{m g:Nat}{K:List (Nat×AV)→List Own→Prop}(hs:Region.sinkB md ops m=true)(hc:Region.chainB md ops m=true)(hn:m<ops.size):
    ∀(l:OT) (f:Nat) (listed:Array Bool) (env:List (Nat×AV)) (W:List Own),l.deep f=true→HeadInv md ops m listed→Inv W→
    BA9 md ops g m l listed=true→BT P G n Inv ops l env W K→
    Ae5 P G n Inv md ops m (fun listed' E W=>Region.seqB md ops g m listed'=true∧∃env',E=(N4 · env')∧K env' W) f listed (N4 · env) W
  | .nil,0,listed,env,W,_,_,_,hB,h=>⟨hB,env,rfl,h⟩
  | .nil,_+1,_,_,_,hdp,_,_,_,_=>by cases hdp
  | .pure _ _,0,_,_,_,hdp,_,_,_,_=>by cases hdp
  | .e1 _ _,0,_,_,_,hdp,_,_,_,_=>by cases hdp
  | .e2 _ _ _ _,0,_,_,_,hdp,_,_,_,_=>by cases hdp
  | .pure i l,f+1,listed,env,W,hdp,inv,hW,hB,h=>by
    simp only[BA9,F0]at hB;obtain⟨⟨⟨hr,hf⟩,hlt⟩,hB'⟩:=hB;have hkn:i<m:=Nat.blt_eq.mp hlt;have hr':i∈Region.ready md ops listed:=by simpa using hr
    obtain⟨o,ho,x,hx,hK⟩:=h;refine Ax9 ho hs hc hn hkn (fun listed' E W hL=>seqB_ready hL.1) f listed _ W inv hW (Region.free_spec ho hf) hr' hx ?_;rw[←m9];exact BI6 hs hc hn l f _ _ W hdp (inv.set hr' hkn) hW hB' hK
  | .e1 i l,f+1,listed,env,W,hdp,inv,hW,hB,h=>by
    simp only[BA9,F0,H6]at hB;obtain⟨⟨hr,hlt⟩,hB'⟩:=hB;have hkn:i<m:=Nat.blt_eq.mp hlt;have hr':i∈Region.ready md ops listed:=by rw[hr];simp
    obtain⟨o,ho,hg,α,ok,W',V,h1,h2,h3⟩:=h;refine⟨fun h0=>BU8,fun j hj=> ?_⟩;rw[hr]at hj;have:j=i:=by simpa using hj
    subst this;refine⟨hkn,?_⟩;unfold qB;simp only[ho];refine .inr ⟨hg,α,ok,W',V,h1,h2,fun a ha=> ?_⟩;rw[←m9];exact BI6 hs hc hn l f _ _ (W' a) hdp (inv.set hr' hkn) (h2 a ha) hB' (h3 a ha)
  | .e2 i l k u,f+1,listed,env,W,hdp,inv,hW,hB,h=>by
    simp only[BA9,F0,H6]at hB;obtain⟨⟨⟨⟨hr,hlt⟩,hlt2⟩,hB'⟩,hB2⟩:=hB;simp only[OT.deep,F0]at hdp;have hkn:i<m:=Nat.blt_eq.mp hlt;have hkn2:k<m:=Nat.blt_eq.mp hlt2;have hr':i∈Region.ready md ops listed:=by rw[hr];simp
    have hr2:k∈Region.ready md ops listed:=by rw[hr];simp
    obtain⟨⟨o,ho,hg,α,ok,W',V,h1,h2,h3⟩,⟨o',ho',hg',α',ok',W'',V',h1',h2',h3'⟩⟩:=h;refine⟨fun h0=>BU8,fun j hj=> ?_⟩;rw[hr]at hj;simp only[T6,List.not_mem_nil,or_false]at hj;rcases hj with hj|hj
    · subst hj
      refine⟨hkn,?_⟩;unfold qB;simp only[ho];refine .inr ⟨hg,α,ok,W',V,h1,h2,fun a ha=> ?_⟩;rw[←m9];exact BI6 hs hc hn l f _ _ (W' a) hdp.1 (inv.set hr' hkn) (h2 a ha) hB' (h3 a ha)
    · subst hj
      refine⟨hkn2,?_⟩;unfold qB;simp only[ho'];refine .inr ⟨hg',α',ok',W'',V',h1',h2',fun a ha=> ?_⟩;rw[←m9];exact BI6 hs hc hn u f _ _ (W'' a) hdp.2 (inv.set hr2 hkn2) (h2' a ha) hB2 (h3' a ha)
theorem Z9 {id:Nat}{l:List Oper}{Q:Exit→I3→Prop}{env:List (Nat×AV)}{own:List Own}(base:List Own)(m:Nat)(ord:OT)(hm:P.follows .mixedOrders=true)(hB:treeB .any l.toArray m ord=true)(hd:BX1 n l=true)(hb:AU0 base own)
  (h:BT P G n (AU0 base) l.toArray ord env own (fun env' W=>S1 P G n l.toArray (l.drop m) ⟨W,env'⟩ (Q .normal))):AWP P G n (.region id l.toArray true) Q ⟨own,env⟩:=fun w0 R0 R a w ⟨h1,h2,h3,h4⟩=>by
 simp only[treeB,F0,H6]at hB;obtain⟨⟨⟨⟨hn,hdp⟩,hs⟩,hc⟩,hlex⟩:=hB;have hn':m<l.length:=by simpa using hn
 have hdl:(l.drop m).length=l.toArray.size-m:=by simp
 have inv0:HeadInv .any l.toArray m (Array.replicate l.toArray.size false):=
  ⟨by simp,fun j oj _ hl=>Bu7,fun t _ ht=>getD_in BU4 (getD_replicate_false _ _)⟩
 have H:=BI6 (g:=l.toArray.size-m) hs hc hn ord m _ env own hdp inv0 hb hlex h;refine wp_region_any hm ?_;have:=AT4 (w0:=w0) (R0:=R0) (R00:=R) (g:=l.toArray.size-m) (Q':=fun e a' w'=>∃s' R',Q e s'∧M9 R R'∧St G n w0 R0 s' R' a' w') (fun i o ho d e=>Ag6 hd i o Be0 d e) (fun listed E W R' a' w' g1 g2 g3 g4 g5 hL=>by
  obtain⟨hL1,env',rfl,hL2⟩:=hL
  have:=wpAny_of_seq (P:=P) (md:= .any) (Q':=fun e a' w'=>∃s' R',Q e s'∧M9 R R'∧St G n w0 R0 s' R' a' w') (l.drop m) m listed a' w' (fun j=>by simp[AS1]) Bu4
   (AK6 (R00:=R) (K:=Q .normal) (fun s' R' a w q r1 r2=>⟨s',R',q,r1,r2⟩) _ (⟨W,env'⟩:I3) R' a' w' g1 ⟨g2,g3,g4,g5⟩ hL2)
  rwa [hdl]at this) _ _ _ own R a _ (M9.refl _) (Af3 h1) h2 h3 h4 H
 rw[show m+(l.toArray.size-m)=l.toArray.size by omega]at this;exact this
section
variable {ops:Array Oper} {i j:Nat} {o:Oper} {r u:OT} {env:List (Nat×AV)} {W:List Own} {base:List Own} {K:List (Nat×AV)→List Own→Prop} {d:Nat} {x:AV}
theorem bt_nil {Inv:List Own→Prop}(h:K env W):BT P G n Inv ops .nil env W K:=h
theorem N8 (ho:ops[i]? =some o)(hg:o.guard=none)(hd:o.dst=some d)(h:∀ext,OpW P G n (base++ext) o (N4 · env) x)(k:BT P G n (AU0 base) ops r ((d,x)::env) W K):BT P G n (AU0 base) ops (.pure i r) env W K:=
  ⟨o,ho,x,fun W' ⟨ext,e⟩=>by subst e;exact Av6 hg (h ext),by rw[hd];exact k⟩
theorem Am5 {c:Bool}(ho:ops[i]? =some o)(hd:o.dst=some d)(hg:G4 ops o (N4 · env) c)(h:c=true→∀ext,OpW P G n (base++ext) o (N4 · env) x)(k:BT P G n (AU0 base) ops r ((d,AV.whn c x)::env) W K):BT P G n (AU0 base) ops (.pure i r) env W K:=
  ⟨o,ho,_,fun W' ⟨ext,e⟩=>by subst e;exact CR5 hg fun hc=>h hc ext,by rw[hd];exact k⟩
theorem bt_e1 {Inv:List Own→Prop}(h:AY0 P G n Inv ops i env W fun env' W'=>BT P G n Inv ops r env' W' K):BT P G n Inv ops (.e1 i r) env W K:=h
theorem AR7 {Inv:List Own→Prop}(h:AY0 P G n Inv ops i env W fun env' W'=>BT P G n Inv ops r env' W' K)(k:AY0 P G n Inv ops j env W fun env' W'=>BT P G n Inv ops u env' W' K):BT P G n Inv ops (.e2 i r j u) env W K:=⟨h,k⟩
theorem AZ3 {Inv:List Own→Prop}{α:Type}{ok:α→Prop}{W':α→List Own}{V:α→AV}(ho:ops[i]? =some o)(hg:o.guard=none)(hd:o.dst=none)(h:OpE P G n W ops o (N4 · env) ok W' V)(hi:∀a,ok a→Inv (W' a))(k:∀a,ok a→K env (W' a)):AY0 P G n Inv ops i env W K:=
  ⟨o,ho,hg,α,ok,W',V,h,hi,fun a ha=>by rw[hd];exact k a ha⟩
theorem F7 {Inv:List Own→Prop}{α:Type}{ok:α→Prop}{W':α→List Own}{V:α→AV}(ho:ops[i]? =some o)(hg:o.guard=none)(hd:o.dst=some d)(h:OpE P G n W ops o (N4 · env) ok W' V)(hi:∀a,ok a→Inv (W' a))(k:∀a,ok a→K ((d,V a)::env) (W' a)):AY0 P G n Inv ops i env W K:=
  ⟨o,ho,hg,α,ok,W',V,h,hi,fun a ha=>by rw[hd];exact k a ha⟩
end
end
section
variable {T X:Type} {cs:T→List AV} {ocs:T→X→List AV} {ow:T→X→List Own}
def L4 (ocs:T→X→List AV)(l:List T)(xs:List X):List (List AV):=List.zipWith ocs l xs
def nin (ow:T→X→List Own)(l:List T)(xs:List X):List Own:=(List.zipWith ow l xs).flatten
theorem i0 {l:List T}{xs:List X}(h:xs.length=l.length):(L4 ocs l xs).length=l.length:=by unfold L4;rw[List.length_zipWith];omega
theorem n9 {l:List T}{xs:List X}{i:Nat}{p:T}{x:X}(hp:l[i]? =some p)(hx:xs[i]? =some x):(L4 ocs l xs)[i]? =some (ocs p x):=by
  unfold L4;rw[List.getElem?_zipWith,hp,hx]
theorem DN9 {l:List T}{xs:List X}{p:T}{x:X}(h:xs.length=l.length):L4 ocs (l++[p]) (xs++[x])=L4 ocs l xs++[ocs p x]:=by
  unfold L4;rw[List.zipWith_append h.symm];rfl
theorem nin_snoc {l:List T}{xs:List X}{p:T}{x:X}(h:xs.length=l.length):(ow p x++nin ow l xs).Perm (nin ow (l++[p]) (xs++[x])):=by
  unfold nin;rw[List.zipWith_append h.symm,BA4];refine List.perm_append_comm.trans ?_;simp
theorem BI7 {l:List T}{i:Nat}{p:T}(h:l[i]? =some p):l.take (i+1)=l.take i++[p]:=by rw[X3,h];rfl
theorem AV8 {l:List T}{xs:List X}{p:T}{x:X}{i:Nat}(hp:l[i]? =some p)(h:xs.length=i):(ow p x++nin ow (l.take i) xs).Perm (nin ow (l.take (i+1)) (xs++[x])):=by
  have hi:=(G1.1 hp).1;rw[BI7 hp];exact nin_snoc (by rw[h,H0];omega)
theorem AP5 {l:List T}{xs:List X}{p:T}{x:X}{i:Nat}(hp:l[i]? =some p)(h:xs.length=i):L4 ocs (l.take i) xs++[ocs p x]=L4 ocs (l.take (i+1)) (xs++[x]):=by
  have hi:=(G1.1 hp).1;rw[BI7 hp,DN9 (by rw[h,H0];omega)]
theorem Ad4 {p:T}{x:X}:∀{l:List T} {xs:List X} {i:Nat},l[i]? =some p→xs[i]? =some x→(nin ow l xs).Perm (ow p x++nin ow (l.eraseIdx i) (xs.eraseIdx i))
  |[],_,_,h,_=>by simp at h
  |_::_,[],_,_,h=>by simp at h
  |q::l,y::xs,0,hp,hx=>by simp at hp hx;subst hp;subst hx;exact List.Perm.refl _
  | q::l,y::xs,i+1,hp,hx=>by
    have ih:=Ad4 (l:=l) (xs:=xs) (i:=i) (by simpa using hp) AT0;unfold nin at*;simp only[List.zipWith_cons_cons,Ak1,BV1];refine(List.Perm.append_left (ow q y) ih).trans ?_;rw[←o7,←o7];exact List.Perm.append_right _ AQ0
theorem AP6 {p:T}{x:X}:∀{l:List T} {xs:List X} {i:Nat},l[i]? =some p→xs[i]? =some x→L4 ocs l xs=L4 ocs (l.take i) (xs.take i)++ocs p x::L4 ocs (l.drop (i+1)) (xs.drop (i+1))
  |[],_,_,h,_=>by simp at h
  |_::_,[],_,_,h=>by simp at h
  |q::l,y::xs,0,hp,hx=>by simp at hp hx;subst hp;subst hx;rfl
  | q::l,y::xs,i+1,hp,hx=>by
    have ih:=AP6 (p:=p) (x:=x) (l:=l) (xs:=xs) (i:=i) (by simpa using hp) AT0;unfold L4 at*;simp only[List.zipWith_cons_cons,BG1,BM5,At2];rw[ih]
theorem DO0 {p p':T}{x:X}{l:List T}{xs:List X}{i:Nat}(hp:l[i]? =some p)(hx:xs[i]? =some x):L4 ocs (l.take i) (xs.take i)++ocs p' x::L4 ocs (l.drop (i+1)) (xs.drop (i+1))=L4 ocs (l.set i p') xs:=by
  have hi:=(G1.1 hp).1;rw[AP6 (l:=l.set i p') (i:=i) (p:=p') (x:=x) (Ac3 hi) hx,List.take_set_of_le (K9 _),List.drop_set_of_lt qz7]
theorem AC9 {p:T}{x:X}{l:List T}{xs:List X}{i:Nat}(hp:l[i]? =some p)(hx:xs[i]? =some x):(L4 ocs (l.take i) (xs.take i)).length=i:=by
  have h1:=(G1.1 hp).1;have h2:=(G1.1 hx).1;unfold L4;rw[List.length_zipWith,H0,H0];omega
theorem BN2 {p:T}{x:X}{l:List T}{xs:List X}{i:Nat}{r:List AV}(hp:l[i]? =some p)(hx:xs[i]? =some x)(hl:xs.length=l.length):(L4 ocs (l.take i) (xs.take i)++r::L4 ocs (l.drop (i+1)) (xs.drop (i+1))).length=l.length:=by
  have h1:=(G1.1 hp).1;rw[I2,AC9 hp hx,J7];unfold L4;rw[List.length_zipWith,AB9,AB9];omega
theorem Bv4 {p:T}{x:X}{l:List T}{xs:List X}{i:Nat}(hp:l[i]? =some p)(hx:xs[i]? =some x):∀o∈ow p x,o∈nin ow l xs:=fun o ho=>(Ad4 (ow:=ow) (i:=i) hp hx).mem_iff.2 (AM4 _ ho)
theorem Ah1 {own:List Own}{v:Value}{t:TypeId}{sz:Nat}{l:List T}{xs:List X}(hlc:∀p x,(∀o∈ow p x,o∈own)→AJ1 own (ocs p x) (cs p))(hlen:xs.length=l.length)(i:Nat)(hi:own[i]? =some (.arr v t sz (L4 ocs l xs)))(hm:∀o∈nin ow l xs,o∈own):AQ9 own (AV.is v) (AV.list sz (l.map cs)):=
  K2 (C3 hi) ⟨by rw[i0 hlen,A8],fun j a b ha hb=>by
    rw[a8]at hb
    cases hp:l[j]? with
    |none=>rw[hp]at hb;cases hb
    | some p=>
      rw[hp]at hb;have hj:=(G1.1 hp).1;obtain⟨x,hx⟩:∃x,xs[j]? =some x:=⟨_,Q5 qz7⟩;rw[n9 hp hx]at ha;injection ha with ha;injection hb with hb;subst ha;subst hb
      exact hlc p x fun o ho=>hm o (Bv4 hp hx o ho)⟩
end
section
variable {T:Type}
def DA1 (mk:T→Int→T)(mn:T→Int→Int):List T→Int→List T
  |[],_=>[]
  |p::l,k=>mk p k::DA1 mk mn l (mn p k)
variable {mk:T→Int→T} {mn:T→Int→Int}
theorem CH7 :∀(l:List T) (k:Int),(DA1 mk mn l k).length=l.length
  |[],_=>rfl
  |p::l,k=>by unfold DA1;simp[CH7 l]
end
section
variable {P:Program} {G:Nat→Prop} {n:Nat} {own:List Own} {o:Oper}
theorem Af6 {rest:List Own}:∀b,(fun _:Nat=>False) b→b∈rest.filterMap Own.blk:=fun _ h=>h.elim
theorem M6 {rest:List Own}:∀b,Aa1 [] b→b∈rest.filterMap Own.blk:=fun _ ⟨_,h,_⟩=>by simp at h
theorem AB1 {q q':Own}{ow rest:List Own}(i:Nat)(h:rest[i]? =some q')(hb:Own.blk q=Own.blk q')(k:∀b,Aa1 ow b→b∈rest.filterMap Own.blk):∀b,Aa1 (q::ow) b→b∈rest.filterMap Own.blk:=fun b ⟨x,hx,hxb⟩=>by
  rcases T6.1 hx with rfl|hx
  ·exact List.mem_filterMap.2 ⟨q',C3 h,hb▸hxb⟩
  ·exact k b ⟨x,hx,hxb⟩
theorem Bg3 {sel rest:List Own} {w0:World} {R0 R:I7} {w:World} (h:X0 G w0 R0 (sel++rest) R w) (hG:∀b,G b→b∈rest.filterMap Own.blk):X0 G w0 R0 rest (AI2 sel w R) w:=by
  have hl:=z9 h;refine⟨h.os,h.tape,h.output,h.size,h.block,Bv2 hl,fun b hb=> ?_,fun q hq=> ?_,fun q hq=>h.fresh q (AD7 _ hq),(Bf9 h).sep⟩
  · unfold AI2
    cases hob:AT9 sel b with
    | true=>
      obtain⟨x,hx,hxb⟩:=Am0 hob;rcases h.fresh x (AM4 _ hx) b hxb with h1|h1
      ·omega
      · obtain⟨y,hy,hyb⟩:=List.mem_filterMap.1 (hG b h1)
        exact absurd hyb (BI5 h.sep hx hy hxb)
    |false=>exact h.rold b hb
  · have hk:=h.owned q (AD7 _ hq)
    refine Own.ok_keep hk (AS4 hl) fun b hb=>⟨rfl,?_⟩;unfold AI2
    cases hob:AT9 sel b with
    | true=>
      obtain⟨x,hx,hxb⟩:=Am0 hob;exact absurd hb (BI5 h.sep hx hq hxb)
    |false=>exact(Own.ok_blk hk hb).1
theorem AI8 {env:List (Nat×AV)}{sel rest:List Own}{x y:AV}(is:List Nat)(t:Nat)(hp:pick own is=(sel,rest))(ht:N4 t env=some x)(hl:AQ9 sel x y)(hG:∀b,G b→b∈rest.filterMap Own.blk):Le G n ⟨own,env⟩ ⟨rest,(t,y)::env⟩:=fun w0 R0 R a w ⟨h1,h2,h3⟩=>by
  have hc:=Af5 h1 hp;refine⟨AI2 sel w R,AS4 (z9 hc),Bg3 hc hG,fun k z hz=> ?_,h3⟩;simp only[N4]at hz;by_cases hk:t=k
  · subst hk
    simp[Nat.beq_refl]at hz;rw[←hz];exact hl G w0 R0 R w _ (z9 hc) (h2 t x ht)
  · rw[Ag4 hk,cond_false]at hz
    exact z.mono (AS4 (z9 hc)) (h2 k z hz)
theorem Am6 {ops:Array Oper}{rest:List Oper}{env:List (Nat×AV)}{K:I3→Prop}{d:Nat}{c:Bool}(hd:o.dst=some d)(hn:Nat.blt d n=true)(hg:G4 ops o (N4 · env) c)
    (ht:c=true→S1 P G n ops ({o with guard:=none}::rest) ⟨own,env⟩ K) (hf:c=false→S1 P G n ops rest ⟨own,(d,AV.is undef)::env⟩ K):S1 P G n ops (o::rest) ⟨own,env⟩ K:=fun w0 R0 R a w hs=>by
  have hgc:=hg R a fun t _ y hy=>hs.2.1 t y hy
  cases c with
  | true=>
    refine⟨fun _=> ?_,fun hw=>by rw[hgc]at hw;exact Bool.noConfusion hw⟩;exact(ht rfl w0 R0 R a w hs).1 rfl
  | false=>
    refine⟨fun hw=>by rw[hgc]at hw;exact Bool.noConfusion hw,fun _=>⟨_,R,hf rfl,M9.refl _,?_⟩⟩;obtain⟨h1,h2,h3,h4⟩:=hs;refine⟨h1,?_,by rw[size_put];exact h3,by rw[r7];exact h4⟩;have:=AQ6 (d:=o.dst) (x:=AV.is undef) (v:=undef) h2 (M9.refl R) (fun q e=>by rw[h3];rw[hd]at e;injection e with e;subst e;exact Nat.blt_eq.mp hn) rfl;rw[hd]at this⊢;exact this
theorem Bv5 {E:P3}{p:Operand}{b:Bool}{x:AV}(h:b=false):CW9 E p b x:=fun hb=>by rw[h]at hb;cases hb
def T3 (x y:Int):Int:=IntKind.u64.wrap (((BitVec.ofInt IntKind.u64.bits x&&& BitVec.ofInt IntKind.u64.bits y).toNat:Nat):Int)
theorem w_band {E:P3}{t ty:TypeId}{p q:Operand}{x y:Int}(ho:o.op= .binOp .and t p q ty)(hp:Ev E p (AV.ik .u64 x))(hq:Ev E q (AV.ik .u64 y)):OpW P G n own o E (AV.ik .u64 (T3 x y)):=P7 fun R a w _ he=>by
  have h1:a.eval p= .int .u64 x:=H4 hp P5 he;have h2:a.eval q= .int .u64 y:=H4 hq P5 he;exact⟨.int .u64 (T3 x y),by simp only[execOp,ho,h1,h2];simp[go_sem];rfl,rfl⟩
theorem Cf2 {Inv:List Own→Prop} {md:Region.Mode} {ops:Array Oper} {m i:Nat} {oi:Oper} {x:AV} {L:Array Bool→P3→List Own→Prop} (hi:ops[i]? =some oi)
    (hm0:m=ops.size) (hin:i<m)
    (hdone:∀listed E W,L listed E W→∀j∈Region.ready md ops listed,m≤j):
    ∀ (f:Nat) (listed:Array Bool) (E:P3) (W:List Own),HeadInv md ops m listed→Inv W→
      (∀j oj,ops[j]? =some oj→j≠i→listed.getD j true=false→(∀e∈oj.after,Region.binds md e=true→e.on≠i)→oi.apart ops oj=true)→
      i∈Region.ready md ops listed→(∀W,Inv W→OpA P G n W ops oi E x)→
      Ae5 P G n Inv md ops m L f (listed.setIfInBounds i true) (AH1 oi.dst x E) W→Ae5 P G n Inv md ops m L (f+1) listed E W:=by
  have put:∀{K:P3→List Own→Prop} {E:P3} {W:List Own},Inv W→(∀W,Inv W→OpA P G n W ops oi E x)→K (AH1 oi.dst x E) W→qB P G n Inv ops i K E W:=fun hW hy hK=>by
    unfold qB;simp only[hi];exact .inl ⟨x,hy _ hW,hK⟩
  intro f;induction f with
  | zero=>
    intro listed E W inv hW _ hr hy H;have hun:=(mem_ready.1 hr).1;refine⟨fun h=>BU6,fun j hj=> ?_⟩;have hjn:j<m:=by
      rcases Nat.lt_or_ge j m with h|h
      ·exact h
      · obtain⟨_,oj,hoj,_⟩:=mem_ready.1 hj
        have:=(AX6.1 hoj).1;omega
    refine⟨hjn,?_⟩;by_cases hji:j=i
    ·subst hji;exact put hW hy H
    · have:=hdone _ _ _ H j (ready_mono hj hji)
      omega
  | succ f ih=>
    intro listed E W inv hW hfree hr hy H;have hun:=(mem_ready.1 hr).1;refine⟨fun h=>BU6,fun j hj=> ?_⟩;have hjn:j<m:=by
      rcases Nat.lt_or_ge j m with h|h
      ·exact h
      · obtain⟨_,oj,hoj,_⟩:=mem_ready.1 hj
        have:=(AX6.1 hoj).1;omega
    refine⟨hjn,?_⟩;by_cases hji:j=i
    ·subst hji;exact put hW hy H
    · have h1:=(H.2 j (ready_mono hj hji)).2
      obtain⟨hjun,oj,hoj,hall⟩:=mem_ready.1 hj;have hnot:∀e∈oj.after,Region.binds md e=true→e.on≠i:=fun e he hb heq=>by
        have h1:=hall e he hb;rw[heq,getD_both hun]at h1
        cases h1
      have h2:=qB_put hoj (hfree j oj hoj hji hjun hnot) hW hy h1
      have hfree':∀k ok,ops[k]? =some ok→k≠i→(listed.setIfInBounds j true).getD k true=false→
          (∀e∈ok.after,Region.binds md e=true→e.on≠i)→oi.apart ops ok=true:=fun k ok hk hki hun hno=>by
        refine hfree k ok hk hki ?_ hno;by_cases hjk:j=k
        ·subst hjk;exact hjun
        ·rw[getD_set_ne true hjk]at hun;exact hun
      refine DJ5 hW (fun E' W' hW' h3=>ih (listed.setIfInBounds j true) E' W' (inv.set hj hjn) hW' hfree' (ready_mono hr (Ne.symm hji)) h3.1 ?_) h2;rw[Array.setIfInBounds_comm _ _ hji];exact h3.2
def treeZ (md:Region.Mode)(ops:Array Oper)(m:Nat)(ord:OT):Bool:=
  decide (m=ops.size)&&ord.deep m&&BA9 md ops (ops.size-m) m ord (Array.replicate ops.size false)
theorem Ay2 {Inv:List Own→Prop}{md:Region.Mode}{ops:Array Oper}{m g:Nat}{K:List (Nat×AV)→List Own→Prop}(hm0:m=ops.size):
    ∀(l:OT) (f:Nat) (listed:Array Bool) (env:List (Nat×AV)) (W:List Own),l.deep f=true→HeadInv md ops m listed→Inv W→
    BA9 md ops g m l listed=true→BT P G n Inv ops l env W K→
    Ae5 P G n Inv md ops m (fun listed' E W=>Region.seqB md ops g m listed'=true∧∃env',E=(N4 · env')∧K env' W) f listed (N4 · env) W
  | .nil,0,listed,env,W,_,_,_,hB,h=>⟨hB,env,rfl,h⟩
  | .nil,_+1,_,_,_,hdp,_,_,_,_=>by cases hdp
  | .pure _ _,0,_,_,_,hdp,_,_,_,_=>by cases hdp
  | .e1 _ _,0,_,_,_,hdp,_,_,_,_=>by cases hdp
  | .e2 _ _ _ _,0,_,_,_,hdp,_,_,_,_=>by cases hdp
  | .pure i l,f+1,listed,env,W,hdp,inv,hW,hB,h=>by
    simp only[BA9,F0]at hB;obtain⟨⟨⟨hr,hf⟩,hlt⟩,hB'⟩:=hB;have hkn:i<m:=Nat.blt_eq.mp hlt;have hr':i∈Region.ready md ops listed:=by simpa using hr
    obtain⟨o,ho,x,hx,hK⟩:=h;refine Cf2 ho hm0 hkn (fun listed' E W hL=>seqB_ready hL.1) f listed _ W inv hW (Region.free_spec ho hf) hr' hx ?_;rw[←m9];exact Ay2 hm0 l f _ _ W hdp (inv.set hr' hkn) hW hB' hK
  | .e1 i l,f+1,listed,env,W,hdp,inv,hW,hB,h=>by
    simp only[BA9,F0,H6]at hB;obtain⟨⟨hr,hlt⟩,hB'⟩:=hB;have hkn:i<m:=Nat.blt_eq.mp hlt;have hr':i∈Region.ready md ops listed:=by rw[hr];simp
    obtain⟨o,ho,hg,α,ok,W',V,h1,h2,h3⟩:=h;refine⟨fun h0=>BU8,fun j hj=> ?_⟩;rw[hr]at hj;have:j=i:=by simpa using hj
    subst this;refine⟨hkn,?_⟩;unfold qB;simp only[ho];refine .inr ⟨hg,α,ok,W',V,h1,h2,fun a ha=> ?_⟩;rw[←m9];exact Ay2 hm0 l f _ _ (W' a) hdp (inv.set hr' hkn) (h2 a ha) hB' (h3 a ha)
  | .e2 i l k u,f+1,listed,env,W,hdp,inv,hW,hB,h=>by
    simp only[BA9,F0,H6]at hB;obtain⟨⟨⟨⟨hr,hlt⟩,hlt2⟩,hB'⟩,hB2⟩:=hB;simp only[OT.deep,F0]at hdp;have hkn:i<m:=Nat.blt_eq.mp hlt;have hkn2:k<m:=Nat.blt_eq.mp hlt2;have hr':i∈Region.ready md ops listed:=by rw[hr];simp
    have hr2:k∈Region.ready md ops listed:=by rw[hr];simp
    obtain⟨⟨o,ho,hg,α,ok,W',V,h1,h2,h3⟩,⟨o',ho',hg',α',ok',W'',V',h1',h2',h3'⟩⟩:=h;refine⟨fun h0=>BU8,fun j hj=> ?_⟩;rw[hr]at hj;simp only[T6,List.not_mem_nil,or_false]at hj;rcases hj with hj|hj
    · subst hj
      refine⟨hkn,?_⟩;unfold qB;simp only[ho];refine .inr ⟨hg,α,ok,W',V,h1,h2,fun a ha=> ?_⟩;rw[←m9];exact Ay2 hm0 l f _ _ (W' a) hdp.1 (inv.set hr' hkn) (h2 a ha) hB' (h3 a ha)
    · subst hj
      refine⟨hkn2,?_⟩;unfold qB;simp only[ho'];refine .inr ⟨hg',α',ok',W'',V',h1',h2',fun a ha=> ?_⟩;rw[←m9];exact Ay2 hm0 u f _ _ (W'' a) hdp.2 (inv.set hr2 hkn2) (h2' a ha) hB2 (h3' a ha)
theorem CC2 {id:Nat}{l:List Oper}{Q:Exit→I3→Prop}{env:List (Nat×AV)}{own:List Own}(base:List Own)(m:Nat)(ord:OT)(hm:P.follows .mixedOrders=true)(hB:treeZ .any l.toArray m ord=true)(hd:BX1 n l=true)(hb:AU0 base own)
  (h:BT P G n (AU0 base) l.toArray ord env own (fun env' W=>S1 P G n l.toArray (l.drop m) ⟨W,env'⟩ (Q .normal))):AWP P G n (.region id l.toArray true) Q ⟨own,env⟩:=fun w0 R0 R a w ⟨h1,h2,h3,h4⟩=>by
 simp only[treeZ,F0,H6]at hB;obtain⟨⟨hm0,hdp⟩,hlex⟩:=hB;have hn':m=l.length:=by simpa using hm0
 have hdl:(l.drop m).length=l.toArray.size-m:=by simp
 have inv0:HeadInv .any l.toArray m (Array.replicate l.toArray.size false):=
  ⟨by simp,fun j oj _ hl=>Bu7,fun t _ ht=>getD_in BU4 (getD_replicate_false _ _)⟩
 have H:=Ay2 (g:=l.toArray.size-m) hm0 ord m _ env own hdp inv0 hb hlex h;refine wp_region_any hm ?_;have:=AT4 (w0:=w0) (R0:=R0) (R00:=R) (g:=l.toArray.size-m) (Q':=fun e a' w'=>∃s' R',Q e s'∧M9 R R'∧St G n w0 R0 s' R' a' w') (fun i o ho d e=>Ag6 hd i o Be0 d e) (fun listed E W R' a' w' g1 g2 g3 g4 g5 hL=>by
  obtain⟨hL1,env',rfl,hL2⟩:=hL
  have:=wpAny_of_seq (P:=P) (md:= .any) (Q':=fun e a' w'=>∃s' R',Q e s'∧M9 R R'∧St G n w0 R0 s' R' a' w') (l.drop m) m listed a' w' (fun j=>by simp[AS1]) Bu4
   (AK6 (R00:=R) (K:=Q .normal) (fun s' R' a w q r1 r2=>⟨s',R',q,r1,r2⟩) _ (⟨W,env'⟩:I3) R' a' w' g1 ⟨g2,g3,g4,g5⟩ hL2)
  rwa [hdl]at this) _ _ _ own R a _ (M9.refl _) (Af3 h1) h2 h3 h4 H
 rw[show m+(l.toArray.size-m)=l.toArray.size by omega]at this;exact this
theorem Bg4 {ops:Array Oper}{E:P3}{x:AV}(h:OpW P G n own o E x):OpE P G n own ops o E (fun _:Unit=>True) (fun _=>own) (fun _=>x):=
  fun w0 R0 R a w h1 h2 h3=>Oper.wp_mono2 (fun a' w' ⟨v,R',e1,e2,e3,e4⟩=>⟨(),v,R',trivial,e1,e2,e3,e4⟩) (fun _ _ _ h=>h) (h w0 R0 R a w h1 h2 fun t ht=>h3 t (Ag5 ht))
end
end Go.AV
namespace Go.AV
open Go
inductive OT3 where
  |nil
  |pure (i:Nat) (t:OT3)
  |e1 (i:Nat) (t:OT3)
  |e2 (i:Nat) (t:OT3) (j:Nat) (u:OT3)
  |e3 (i:Nat) (t:OT3) (j:Nat) (u:OT3) (k:Nat) (v:OT3)
def OT3.deep :OT3→Nat→Bool
  | .nil,0=>true
  | .pure _ t,f+1=>t.deep f
  | .e1 _ t,f+1=>t.deep f
  | .e2 _ t _ u,f+1=>t.deep f&&u.deep f
  | .e3 _ t _ u _ v,f+1=>(t.deep f&&u.deep f)&&v.deep f
  |_,_=>false
def Aq2 (md:Region.Mode)(ops:Array Oper)(g m:Nat):OT3→Array Bool→Bool
  | .nil,listed=>Region.seqB md ops g m listed
  | .pure i r,listed=>(Region.ready md ops listed).contains i&&Region.free md ops listed i&&Nat.blt i m&&Aq2 md ops g m r (listed.setIfInBounds i true)
  | .e1 i r,listed=>decide (Region.ready md ops listed=[i])&&Nat.blt i m&&Aq2 md ops g m r (listed.setIfInBounds i true)
  | .e2 i r j u,listed=>decide (Region.ready md ops listed=[i,j])&&Nat.blt i m&&Nat.blt j m&&Aq2 md ops g m r (listed.setIfInBounds i true)&&Aq2 md ops g m u (listed.setIfInBounds j true)
  | .e3 i r j u k v,listed=>decide (Region.ready md ops listed=[i,j,k])&&Nat.blt i m&&Nat.blt j m&&Nat.blt k m&&Aq2 md ops g m r (listed.setIfInBounds i true)&&Aq2 md ops g m u (listed.setIfInBounds j true)&&Aq2 md ops g m v (listed.setIfInBounds k true)
def treeB3 (md:Region.Mode)(ops:Array Oper)(m:Nat)(ord:OT3):Bool:=
  decide (m<ops.size)&&ord.deep m&&Region.sinkB md ops m&&Region.chainB md ops m&&Aq2 md ops (ops.size-m) m ord (Array.replicate ops.size false)
section
variable {P:Program} {G:Nat→Prop} {n:Nat}
def BT3 (P:Program)(G:Nat→Prop)(n:Nat)(Inv:List Own→Prop)(ops:Array Oper):OT3→List (Nat×AV)→List Own→(List (Nat×AV)→List Own→Prop)→Prop
  | .nil,env,W,K=>K env W
  | .pure i r,env,W,K=>∃o,ops[i]? =some o∧∃x,(∀W',Inv W'→OpA P G n W' ops o (N4 · env) x)∧BT3 P G n Inv ops r (BT7 o.dst x env) W K
  | .e1 i r,env,W,K=>AY0 P G n Inv ops i env W fun env' W'=>BT3 P G n Inv ops r env' W' K
  | .e2 i r j u,env,W,K=>(AY0 P G n Inv ops i env W fun env' W'=>BT3 P G n Inv ops r env' W' K)∧AY0 P G n Inv ops j env W fun env' W'=>BT3 P G n Inv ops u env' W' K
  | .e3 i r j u k v,env,W,K=>(AY0 P G n Inv ops i env W fun env' W'=>BT3 P G n Inv ops r env' W' K)∧(AY0 P G n Inv ops j env W fun env' W'=>BT3 P G n Inv ops u env' W' K)∧AY0 P G n Inv ops k env W fun env' W'=>BT3 P G n Inv ops v env' W' K
theorem AZ4 {Inv:List Own→Prop}{md:Region.Mode}{ops:Array Oper}{m g:Nat}{K:List (Nat×AV)→List Own→Prop}(hs:Region.sinkB md ops m=true)(hc:Region.chainB md ops m=true)(hn:m<ops.size):
    ∀(l:OT3) (f:Nat) (listed:Array Bool) (env:List (Nat×AV)) (W:List Own),l.deep f=true→HeadInv md ops m listed→Inv W→
    Aq2 md ops g m l listed=true→BT3 P G n Inv ops l env W K→
    Ae5 P G n Inv md ops m (fun listed' E W=>Region.seqB md ops g m listed'=true∧∃env',E=(N4 · env')∧K env' W) f listed (N4 · env) W
  | .nil,0,listed,env,W,_,_,_,hB,h=>⟨hB,env,rfl,h⟩
  | .nil,_+1,_,_,_,hdp,_,_,_,_=>by cases hdp
  | .pure _ _,0,_,_,_,hdp,_,_,_,_=>by cases hdp
  | .e1 _ _,0,_,_,_,hdp,_,_,_,_=>by cases hdp
  | .e2 _ _ _ _,0,_,_,_,hdp,_,_,_,_=>by cases hdp
  | .e3 _ _ _ _ _ _,0,_,_,_,hdp,_,_,_,_=>by cases hdp
  | .pure i l,f+1,listed,env,W,hdp,inv,hW,hB,h=>by
    simp only[Aq2,F0]at hB;obtain⟨⟨⟨hr,hf⟩,hlt⟩,hB'⟩:=hB;have hkn:i<m:=Nat.blt_eq.mp hlt;have hr':i∈Region.ready md ops listed:=by simpa using hr
    obtain⟨o,ho,x,hx,hK⟩:=h;refine Ax9 ho hs hc hn hkn (fun listed' E W hL=>seqB_ready hL.1) f listed _ W inv hW (Region.free_spec ho hf) hr' hx ?_;rw[←m9];exact AZ4 hs hc hn l f _ _ W hdp (inv.set hr' hkn) hW hB' hK
  | .e1 i l,f+1,listed,env,W,hdp,inv,hW,hB,h=>by
    simp only[Aq2,F0,H6]at hB;obtain⟨⟨hr,hlt⟩,hB'⟩:=hB;have hkn:i<m:=Nat.blt_eq.mp hlt;have hr':i∈Region.ready md ops listed:=by rw[hr];simp
    obtain⟨o,ho,hg,α,ok,W',V,h1,h2,h3⟩:=h;refine⟨fun h0=>BU8,fun j hj=> ?_⟩;rw[hr]at hj;have:j=i:=by simpa using hj
    subst this;refine⟨hkn,?_⟩;unfold qB;simp only[ho];refine .inr ⟨hg,α,ok,W',V,h1,h2,fun a ha=> ?_⟩;rw[←m9];exact AZ4 hs hc hn l f _ _ (W' a) hdp (inv.set hr' hkn) (h2 a ha) hB' (h3 a ha)
  | .e2 i l k u,f+1,listed,env,W,hdp,inv,hW,hB,h=>by
    simp only[Aq2,F0,H6]at hB;obtain⟨⟨⟨⟨hr,hlt⟩,hlt2⟩,hB'⟩,hB2⟩:=hB;simp only[OT3.deep,F0]at hdp;have hkn:i<m:=Nat.blt_eq.mp hlt;have hkn2:k<m:=Nat.blt_eq.mp hlt2;have hr':i∈Region.ready md ops listed:=by rw[hr];simp
    have hr2:k∈Region.ready md ops listed:=by rw[hr];simp
    obtain⟨⟨o,ho,hg,α,ok,W',V,h1,h2,h3⟩,⟨o',ho',hg',α',ok',W'',V',h1',h2',h3'⟩⟩:=h;refine⟨fun h0=>BU8,fun j hj=> ?_⟩;rw[hr]at hj;simp only[T6,List.not_mem_nil,or_false]at hj;rcases hj with hj|hj
    · subst hj
      refine⟨hkn,?_⟩;unfold qB;simp only[ho];refine .inr ⟨hg,α,ok,W',V,h1,h2,fun a ha=> ?_⟩;rw[←m9];exact AZ4 hs hc hn l f _ _ (W' a) hdp.1 (inv.set hr' hkn) (h2 a ha) hB' (h3 a ha)
    · subst hj
      refine⟨hkn2,?_⟩;unfold qB;simp only[ho'];refine .inr ⟨hg',α',ok',W'',V',h1',h2',fun a ha=> ?_⟩;rw[←m9];exact AZ4 hs hc hn u f _ _ (W'' a) hdp.2 (inv.set hr2 hkn2) (h2' a ha) hB2 (h3' a ha)
  | .e3 i l k u q v,f+1,listed,env,W,hdp,inv,hW,hB,h=>by
    simp only[Aq2,F0,H6]at hB;obtain⟨⟨⟨⟨⟨⟨hr,hlt⟩,hlt2⟩,hlt3⟩,hB'⟩,hB2⟩,hB3⟩:=hB;simp only[OT3.deep,F0]at hdp;have hkn:i<m:=Nat.blt_eq.mp hlt;have hkn2:k<m:=Nat.blt_eq.mp hlt2;have hkn3:q<m:=Nat.blt_eq.mp hlt3;have hr':i∈Region.ready md ops listed:=by rw[hr];simp
    have hr2:k∈Region.ready md ops listed:=by rw[hr];simp
    have hr3:q∈Region.ready md ops listed:=by rw[hr];simp
    obtain⟨⟨o,ho,hg,α,ok,W',V,h1,h2,h3⟩,⟨o',ho',hg',α',ok',W'',V',h1',h2',h3'⟩,⟨o3,ho3,hg3,α3,ok3,W3,V3,h13,h23,h33⟩⟩:=h;refine⟨fun h0=>BU8,fun j hj=> ?_⟩;rw[hr]at hj;simp only[T6,List.not_mem_nil,or_false]at hj;rcases hj with hj|hj|hj
    · subst hj
      refine⟨hkn,?_⟩;unfold qB;simp only[ho];refine .inr ⟨hg,α,ok,W',V,h1,h2,fun a ha=> ?_⟩;rw[←m9];exact AZ4 hs hc hn l f _ _ (W' a) hdp.1.1 (inv.set hr' hkn) (h2 a ha) hB' (h3 a ha)
    · subst hj
      refine⟨hkn2,?_⟩;unfold qB;simp only[ho'];refine .inr ⟨hg',α',ok',W'',V',h1',h2',fun a ha=> ?_⟩;rw[←m9];exact AZ4 hs hc hn u f _ _ (W'' a) hdp.1.2 (inv.set hr2 hkn2) (h2' a ha) hB2 (h3' a ha)
    · subst hj
      refine⟨hkn3,?_⟩;unfold qB;simp only[ho3];refine .inr ⟨hg3,α3,ok3,W3,V3,h13,h23,fun a ha=> ?_⟩;rw[←m9];exact AZ4 hs hc hn v f _ _ (W3 a) hdp.2 (inv.set hr3 hkn3) (h23 a ha) hB3 (h33 a ha)
theorem CC3 {id:Nat}{l:List Oper}{Q:Exit→I3→Prop}{env:List (Nat×AV)}{own:List Own}(base:List Own)(m:Nat)(ord:OT3)(hm:P.follows .mixedOrders=true)(hB:treeB3 .any l.toArray m ord=true)(hd:BX1 n l=true)(hb:AU0 base own)
  (h:BT3 P G n (AU0 base) l.toArray ord env own (fun env' W=>S1 P G n l.toArray (l.drop m) ⟨W,env'⟩ (Q .normal))):AWP P G n (.region id l.toArray true) Q ⟨own,env⟩:=fun w0 R0 R a w ⟨h1,h2,h3,h4⟩=>by
 simp only[treeB3,F0,H6]at hB;obtain⟨⟨⟨⟨hn,hdp⟩,hs⟩,hc⟩,hlex⟩:=hB;have hn':m<l.length:=by simpa using hn
 have hdl:(l.drop m).length=l.toArray.size-m:=by simp
 have inv0:HeadInv .any l.toArray m (Array.replicate l.toArray.size false):=
  ⟨by simp,fun j oj _ hl=>Bu7,fun t _ ht=>getD_in BU4 (getD_replicate_false _ _)⟩
 have H:=AZ4 (g:=l.toArray.size-m) hs hc hn ord m _ env own hdp inv0 hb hlex h;refine wp_region_any hm ?_;have:=AT4 (w0:=w0) (R0:=R0) (R00:=R) (g:=l.toArray.size-m) (Q':=fun e a' w'=>∃s' R',Q e s'∧M9 R R'∧St G n w0 R0 s' R' a' w') (fun i o ho d e=>Ag6 hd i o Be0 d e) (fun listed E W R' a' w' g1 g2 g3 g4 g5 hL=>by
  obtain⟨hL1,env',rfl,hL2⟩:=hL
  have:=wpAny_of_seq (P:=P) (md:= .any) (Q':=fun e a' w'=>∃s' R',Q e s'∧M9 R R'∧St G n w0 R0 s' R' a' w') (l.drop m) m listed a' w' (fun j=>by simp[AS1]) Bu4
   (AK6 (R00:=R) (K:=Q .normal) (fun s' R' a w q r1 r2=>⟨s',R',q,r1,r2⟩) _ (⟨W,env'⟩:I3) R' a' w' g1 ⟨g2,g3,g4,g5⟩ hL2)
  rwa [hdl]at this) _ _ _ own R a _ (M9.refl _) (Af3 h1) h2 h3 h4 H
 rw[show m+(l.toArray.size-m)=l.toArray.size by omega]at this;exact this
section
variable {ops:Array Oper} {i j:Nat} {o:Oper} {r u:OT3} {env:List (Nat×AV)} {W:List Own} {base:List Own} {K:List (Nat×AV)→List Own→Prop} {d:Nat} {x:AV}
theorem bt3_nil {Inv:List Own→Prop}(h:K env W):BT3 P G n Inv ops .nil env W K:=h
theorem AZ5 (ho:ops[i]? =some o)(hg:o.guard=none)(hd:o.dst=some d)(h:∀ext,OpW P G n (base++ext) o (N4 · env) x)(k:BT3 P G n (AU0 base) ops r ((d,x)::env) W K):BT3 P G n (AU0 base) ops (.pure i r) env W K:=
  ⟨o,ho,x,fun W' ⟨ext,e⟩=>by subst e;exact Av6 hg (h ext),by rw[hd];exact k⟩
theorem bt3_e1 {Inv:List Own→Prop}(h:AY0 P G n Inv ops i env W fun env' W'=>BT3 P G n Inv ops r env' W' K):BT3 P G n Inv ops (.e1 i r) env W K:=h
theorem bt3_e3 {Inv:List Own→Prop}{q:Nat}{v:OT3}(h:AY0 P G n Inv ops i env W fun env' W'=>BT3 P G n Inv ops r env' W' K)(k:AY0 P G n Inv ops j env W fun env' W'=>BT3 P G n Inv ops u env' W' K)(k3:AY0 P G n Inv ops q env W fun env' W'=>BT3 P G n Inv ops v env' W' K):BT3 P G n Inv ops (.e3 i r j u q v) env W K:=⟨h,k,k3⟩
theorem Co7 {Inv:List Own→Prop}(h:AY0 P G n Inv ops i env W fun env' W'=>BT3 P G n Inv ops r env' W' K)(k:AY0 P G n Inv ops j env W fun env' W'=>BT3 P G n Inv ops u env' W' K):BT3 P G n Inv ops (.e2 i r j u) env W K:=⟨h,k⟩
end
end
section
variable {P:Program} {G:Nat→Prop} {n:Nat}
end
section
variable {P:Program} {G:Nat→Prop} {n:Nat} {own:List Own} {o:Oper}
theorem j7 {E:P3}{e:TypeId}{p:Operand}{k sz:Nat}{v:Value}{es:List (List AV)}{ys:List AV}(i:Nat)(ho:o.op= .nilCheck p)(hp:Ev E p (AV.is (AF9 v (k*sz))))(hi:own[i]? =some (.arr v e sz es))(hy:es[k]? =some ys)(h0:Nat.blt 0 sz=true):OpW P G n own o E (AV.is (AF9 v (k*sz))):=AL2 fun w0 R0 R a w hc he=>by
  have e1:a.eval p=_:=H4 hp P5 he;have hok:=hc.owned _ (C3 hi);have hu:=hok.2.1;have hyl:ys.length=sz:=hu ys (C3 hy);have hb1:=Nat.blt_eq.mp h0;obtain⟨g,u0,h1,_⟩:=Am3 hok (AH6 hu hy (Q5 (show 0<ys.length by omega)));rw[Nat.add_zero]at h1;rw[h1]at e1;refine⟨_,?_,show AF9 v (k*sz)=_ from rfl⟩;rw[h1];simp only[execOp,ho,e1,Sem.run_pure]
end
end Go.AV
namespace Go.AV
def AV.wt (T:World→Prop)(x:AV):AV:=⟨fun R v=>x.den R v∧∀w':World,RLe R w'→T w',fun h ⟨a,b⟩=>⟨x.mono h a,fun w' hw=>b w' fun b o e=>hw b o (h b o e)⟩⟩
section
variable {P:Program} {G:Nat→Prop} {n:Nat} {own:List Own} {o:Oper} {E:P3}
theorem core_tab {w0 w:World}{R0 R:I7}{T:World→Prop}(h:X0 G w0 R0 own R w)(ht:∀w':World,RLe R w'→T w'):X0 G w0 R0 (.tab T::own) R w where
  os:=h.os
  tape:=h.tape
  output:=h.output
  size:=h.size
  block:=h.block
  rle:=h.rle
  rold:=h.rold
  owned o ho:=by
    rcases T6.1 ho with rfl|ho
    ·exact ht
    ·exact h.owned o ho
  fresh o ho b hb:=by
    rcases T6.1 ho with rfl|ho
    ·cases hb
    ·exact h.fresh o ho b hb
  sep:=by
    rw[Ak3];exact h.sep
theorem BR4 {env:List (Nat×AV)}{t:Nat}{x:AV}{T:World→Prop}(ht:N4 t env=some (AV.wt T x)):Le G n ⟨own,env⟩ ⟨.tab T::own,(t,x)::env⟩:=fun w0 R0 R a w ⟨h1,h2,h3⟩=>by
  have hx:=h2 t _ ht;refine⟨R,M9.refl _,core_tab h1 hx.2,fun k z hz=> ?_,h3⟩;simp only[N4]at hz;by_cases hk:t=k
  · subst hk
    simp[Nat.beq_refl]at hz;rw[←hz];exact hx.1
  · rw[Ag4 hk,cond_false]at hz
    exact h2 k z hz
theorem Co8 {f:FuncId}{x y:AV}{T:World→Prop}(h:∀(R:I7) (w:World) (v:Value),RLe R w→x.den R v→T w→Calls P f #[v] w fun e w'=>∃u,e= .returned u∧y.den R u∧Go.RowKit.Below w.heap.size w w'):J6 P f [AV.wt T x] y:=fun R w vs hr hd=>by
  match vs,hd.1 with
  | [v],_=>
    have h1:=hd.2 0 v _ rfl rfl;refine(h R w v hr h1.1 (h1.2 w hr)).mono fun e w' ⟨u,h2,h3,h4⟩=>⟨u,R,h2,h3,fun b o hb=> ?_,fun _ _=>rfl,h4⟩;have hb2:=hr b o hb;rw[h4.block b (AX6.1 hb2).1];exact hb2
theorem DB4 (w:World)(k:Nat)(os:Array Obj):Go.RowKit.Below w.heap.size w (Go.Sort.grow (w.drewN k) os):=
  ⟨rfl,rfl,rfl,by rw[Go.Sort.size_grow];exact Nat.le_add_right _ _,fun b hb=>Go.Sort.heap_grow_old (w.drewN k) os hb⟩
theorem DO1 {P:Program}{W w':World}{name:String}{k:IntKind}{zs:List Int}(h:Lib.TabIs P W name k zs)(hw:RLe (BA8 W) w'):Lib.TabIs P w' name k zs:=by
  unfold Lib.TabIs World.var? at h⊢
  cases hg:P.globalNamed name with
  |none=>rw[hg]at h;cases h
  | some g=>
    rw[hg]at h;simp only[Option.bind_some]at h⊢
    cases ho:W.heap[g]? with
    |none=>rw[ho]at h;cases h
    | some o=>
      rw[ho]at h;rw[hw g o ho];exact h
end
end Go.AV
namespace Go.AV
open Go.RowKit (Below)
def AV.errB (b:Bool):AV:=⟨fun _ v=>(b=false→v= .nilIface)∧(b=true→∃t p,v= .iface t p),fun _ h=>h⟩
section
variable {P:Program} {G:Nat→Prop} {n:Nat} {own:List Own} {o:Oper} {E:P3}
theorem w_errneq {b:Bool}{t:TypeId}{p:Operand}{ty:TypeId}(ho:o.op= .binOp .neq t p (.const .nilIface) ty)(ht:P.underlying t=some (.interface (P.methodsAt t)))(hp:Ev E p (AV.errB b)):OpW P G n own o E (AV.bool b):=P7 fun R a w _ he=>by
  have h1:(b=false→a.eval p= .nilIface)∧(b=true→∃t p',a.eval p= .iface t p'):=H4 hp P5 he;have h3:a.eval (.const .nilIface)= .nilIface:=rfl
  cases b with
  | false=>
    have h2:=h1.1 rfl;exact⟨.bool false,by simp only[execOp,ho,h2,h3,eqGuard_nil_constR,Sem.run_bind,Sem.run_pure,Result.andThen_ok,run_neq_nil_nil w t ht],rfl⟩
  | true=>
    obtain⟨u,x,h2⟩:=h1.2 rfl;exact⟨.bool true,by simp only[execOp,ho,h2,h3,eqGuard_at_iface,Sem.run_bind,Sem.run_pure,Result.andThen_ok,run_neq_held_nil w t u x ht],rfl⟩
theorem Ad5 {f:FuncId}{args:Array Operand}{tys:Array TypeId}{ps:List Operand}{x:AV}{xs:List AV}{y:AV}{T T':World→Prop}(i:Nat)(hi:own[i]? =some (.tab T'))(ho:o.op= .call {callee:= .value (.func f),args:=args,argTypes:=tys})(hc:∀(vs:Array Value) (w:World),(callFunc f vs).run P w= .ok (.enter f vs) w)
    (hps:args.toList=ps) (hs:J6 P f (AV.wt T x::xs) y) (he:EvL E ps (x::xs)) (hT:∀w,T' w→T w):OpW P G n own o E y:=fun w0 R0 R a w hcore _ hen=>by
  have hd:=Ao9 hen he fun p hp=>by simp[ho,Op.operands,Call.operands];right;rw[←hps]at hp;exact Array.mem_toList_iff.1 hp
  have htab:∀w':World,RLe R w'→T w':=fun w' hw'=>hT w' ((hcore.owned _ (C3 hi)) w' hw');have hd2:m3 R (ps.map a.eval) (AV.wt T x::xs):=⟨hd.1,fun j v z hv hz=>by
    cases j with
    | zero=>
      simp at hz;subst hz;exact⟨hd.2 0 v x hv rfl,htab⟩
    |succ j=>exact hd.2 (j+1) v z hv hz⟩
  have hrun:(execOp a.eval o).run P w= .ok (.enter f (ps.map a.eval).toArray) w:=by
    have hargs:args.map a.eval=(ps.map a.eval).toArray:=by rw[←hps];cases args;simp
    simp only[execOp,ho,resolve,hargs,show a.eval (.func f)= .func (.func f) #[] #[]from rfl];simp[Deferred.ofValue,invoke,hc]
  unfold Oper.wp;rw[hrun,Oper.upon_enter];refine(hs R w _ hcore.rle hd2).mono fun e w' ⟨v,R',e1,e2,e3,e4,e5⟩=> ?_;subst e1;exact⟨v,R',rfl,hcore.step e5 e3 e4,AY2 hcore.rle e4,e2⟩
theorem DO2 (w:World):Below w.heap.size w w:=⟨rfl,rfl,rfl,K9 _,fun _ _=>rfl⟩
theorem DB5 (w:World)(e:TypeId)(t:ByteArray):Below w.heap.size w (Lib.bytesWorld w e t):=
  ⟨rfl,rfl,rfl,by rw[Lib.bytesWorld_size];exact Nat.le_succ _,fun b hb=>Lib.bytesWorld_at_old w e t b hb⟩
theorem Cf3 {H:Type}{enc:TypeId×Value→H}{a:Assume}{C:Checked}{os:Os}{f:FuncId}{fn:Func}{s:ChangeSpec}{conds:List PathCond}{apart fresh handsOn again:Bool}{X:World→Array Value→Prop}
    (hX:∀(w w':World) (args:Array Value),w.heap=w'.heap→X w args→X w' args)
    (own:ownKnob C.prog.godebug=none) (started:os.Started) (noInit:C.prog.inits.idxOf? f=none) (hfn:C.prog.funcs[f]? =some fn)
    (witness:∃(w:World) (tape:Tape) (i:Input),w.os=os∧(w.forCall tape i).Shaped C.prog∧i.vars=[]∧Input.okWide C.prog (w.forCall tape i) .any w.heap.size f i∧
      ((s.pre enc C.prog fn conds apart (w.forCall tape i).memory i.args∧X (w.forCall tape i).memory i.args)∧sizedMet enc C.prog fn (OpenSpec.ofChange s) apart (w.forCall tape i).memory i.args)∧a.holds C.prog (lone (Frame.enter C.prog f i.args .normal) [] (w.forCall tape i)))
    (contract:∀(W:World) (base:Nat) (args:Array Value) (ds gs:List (DataW H)) (before:List MemPlace),
      (∀(j:Nat) t v,fn.params[j]? =some t→args[j]? =some v→Value.okWide C.prog W .any base t v)→
      DataW.Whole enc C.prog fn.params.toList s.vars apart W args.toList ds gs before→
      W.ShapedOpen C.prog→
      (DataW.weightsEach C.prog (fn.params.toList++s.plain.varTypes C.prog) (ds++gs)).all (·≤reachBytes)=true→X W args→
      a.holds C.prog (lone (Frame.enter C.prog f args .normal) [] W)→
      Calls C.prog f args W fun e W'=>∃v,e= .returned v∧s.post enc C.prog fn apart fresh handsOn again W args v W'):
    ReturnsInHanded a C os f .any (fun w args=>(s.pre enc C.prog fn conds apart w args∧X w args)∧sizedMet enc C.prog fn (OpenSpec.ofChange s) apart w args) (s.post enc C.prog fn apart fresh handsOn again):=by
  refine returnsInHanded_of_calls own started noInit witness ?_;intro w tape i _ hsh _ hok hpre hholds;obtain⟨_,_,_,fn',hfn',_,_,_,_,hval⟩:=hok;have e:fn'=fn:=Option.some.inj (hfn'.symm.trans hfn);subst e;obtain⟨⟨⟨ds,gs,before,hw,hc⟩,hx⟩,hz⟩:=hpre;have hw':=DataW.Whole.of_heap (w':=w.forCall tape i) B7 hw;refine(contract (w.forCall tape i) w.heap.size i.args ds gs before hval hw' hsh (hz.weights hw) (hX _ _ _ B7 hx) hholds).mono fun e W' ⟨v,he,hp⟩=> ?_;subst he;exact ChangeSpec.post_blind hp
theorem Co9 {P:Program}{W w':World}{name:String}{vs:Array Value}(h:W.var? P name=some vs)(hw:RLe (BA8 W) w'):w'.var? P name=some vs:=by
  unfold World.var? at h⊢
  cases hg:P.globalNamed name with
  |none=>rw[hg]at h;cases h
  | some g=>
    rw[hg]at h;simp only[Option.bind_some]at h⊢
    cases ho:W.heap[g]? with
    |none=>rw[ho]at h;cases h
    | some o=>
      rw[ho]at h;rw[hw g o ho];exact h
end
end Go.AV
namespace Go.AV
theorem S2 {α β:Type}{f:α→β}{l:List α}{i:Nat}{x:α}(h:l[i]? =some x):(l.map f)[i]? =some (f x):=by rw[a8,h];rfl
theorem B9 {α:Type}{l:List α}{i:Nat}{x y:α}(h:l[i]? =some y):(l.set i x)[i]? =some x:=Ac3 (G1.1 h).1
section
variable {P:Program} {G:Nat→Prop} {n:Nat} {own:List Own} {o:Oper} {E:P3}
theorem AA5 {f:FuncId}{args:Array Operand}{tys:Array TypeId}{ps:List Operand}{xs:List AV}{y:AV}{s1 r1:List Own}(is:List Nat)(m:Nat)(B D:List Own)(ho:o.op= .call {callee:= .value (.func f),args:=args,argTypes:=tys})
    (hc:∀(vs:Array Value) (w:World),(callFunc f vs).run P w= .ok (.enter f vs) w) (hps:args.toList=ps) (hp:pick own is=(s1,r1)) (hB:(r1.drop m).Perm (B++D)) (hs:K3 P f xs (s1++B) (fun _:Unit=>True) (fun _=>s1++B) (fun _=>y)) (he:EvL E ps xs):OpW P G n own o E y:=fun w0 R0 R a w hcore0 _ hen=>by
  have hperm:own.Perm ((s1++B)++(r1.take m++D)):=by
    refine(Bg2 hp).trans ?_;have h1:r1.Perm (r1.take m++(B++D)):=by
      have:=List.Perm.append_left (r1.take m) hB
      rwa [Ak4]at this
    refine(List.Perm.append_left s1 h1).trans ?_;rw[o7];refine List.Perm.append_left s1 ?_;rw[←o7,←o7];exact List.Perm.append_right D AQ0
  have hcore:=AE4 hcore0 hperm;have hd:=Ao9 hen he fun p hp=>by simp[ho,Op.operands,Call.operands];right;rw[←hps]at hp;exact Array.mem_toList_iff.1 hp
  have hrun:(execOp a.eval o).run P w= .ok (.enter f (ps.map a.eval).toArray) w:=by
    have hargs:args.map a.eval=(ps.map a.eval).toArray:=by rw[←hps];cases args;simp
    simp only[execOp,ho,resolve,hargs,show a.eval (.func f)= .func (.func f) #[] #[]from rfl];simp[Deferred.ofValue,invoke,hc]
  unfold Oper.wp;rw[hrun,Oper.upon_enter];refine(hs R w _ hcore.rle hd (fun q hq=>hcore.owned q (AM4 _ hq)) (z9 hcore).sep).mono fun e w' ⟨x,v,R',e0,e1,e2,e3⟩=> ?_;subst e1;exact⟨v,R',rfl,AE4 (Ax8 hcore e3) hperm.symm,AY2 hcore.rle e3.rold,e2⟩
end
section
variable {P:Program} {G:Nat→Prop} {n:Nat} {own:List Own} {o:Oper}
def Bj7 (sel:List Own):Own→Own→Prop
  | .box b t cs,.box b' t' cs'=>b=b'∧t=t'∧AJ1 sel cs cs'
  | .arr v t sz es,.arr v' t' sz' es'=>v=v'∧t=t'∧sz=sz'∧BO8 sel es es'
  | .frz b t cs,.frz b' t' cs'=>b=b'∧t=t'∧AJ1 sel cs cs'
  | .tab T,.tab T'=>T=T'
  | .obj b D,.obj b' D'=>b=b'∧D=D'
  |_,_=>False
def BP0 (sel own own':List Own):Prop:=own.length=own'.length∧∀(i:Nat) (q q':Own),own[i]? =some q→own'[i]? =some q'→Bj7 sel q q'
theorem CH8 {sel:List Own}:BP0 sel [] []:=⟨rfl,fun i q q' h=>by simp at h⟩
theorem Bv6 {sel a b:List Own}{q q':Own}(h:Bj7 sel q q')(k:BP0 sel a b):BP0 sel (q::a) (q'::b):=⟨by simp[k.1],fun i x y hx hy=>by
  cases i with
  |zero=>simp at hx hy;subst hx;subst hy;exact h
  |succ i=>exact k.2 i x y AT0 BM2⟩
theorem oc_blk {sel:List Own}{q q':Own}(h:Bj7 sel q q'):Own.blk q=Own.blk q':=by
  cases q<;>cases q'<;>unfold Bj7 at h<;>first|exact h.elim|skip
  ·exact F2 some h.1
  ·exact F2 Value.ownBlock h.1
  ·exact F2 some h.1
  ·rfl
  ·exact F2 some h.1
theorem oc_map {sel a b:List Own}(h:BP0 sel a b):a.map Own.blk=b.map Own.blk:=by
  refine List.ext_getElem? fun i=> ?_;rw[a8,a8]
  cases ha:a[i]? with
  | none=>
    have:b[i]? =none:=by rw[List.getElem?_eq_none_iff]at ha⊢;rw[←h.1];exact ha
    rw[this]
  | some q=>
    have hi:i<b.length:=by rw[←h.1];exact(G1.1 ha).1
    rw[Q5 hi];exact F2 some (oc_blk (h.2 i q _ ha (Q5 hi)))
theorem oc_fm {sel a b:List Own}(h:BP0 sel a b):a.filterMap Own.blk=b.filterMap Own.blk:=by
  have:=F2 (List.filterMap id) (oc_map h)
  rwa [List.filterMap_map,List.filterMap_map]at this
theorem Bo1 {sel:List Own}{xs ys:List AV}{w0:World}{R0 R:I7}{w:World}{vs:List Value}(hc:X0 G w0 R0 sel R w)(h:w5 R vs xs)(k:AJ1 sel xs ys):w5 (AI2 sel w R) vs ys:=
  ⟨h.1.trans k.1,fun i v y hv hy=>by
    have hi:i<xs.length:=by rw[k.1];exact(G1.1 hy).1
    have hx:=Q5 hi;obtain⟨h1,h2⟩:=h.2 i v _ hv hx;exact⟨k.2 i _ y hx hy G w0 R0 R w v hc h1,h2⟩⟩
theorem Bg5 {sel rest rest':List Own} {w0:World} {R0 R:I7} {w:World} (h:X0 G w0 R0 (sel++rest) R w) (hG:∀b,G b→b∈rest.filterMap Own.blk) (hl:BP0 sel rest rest'):X0 G w0 R0 rest' (AI2 sel w R) w:=by
  have hb:=Bg3 h hG;have hs:=z9 h;refine⟨hb.os,hb.tape,hb.output,hb.size,hb.block,hb.rle,hb.rold,fun q' hq'=> ?_,fun q' hq' b hqb=> ?_,?_⟩
  · obtain⟨i,hi⟩:=i5 hq'
    have hir:i<rest.length:=by rw[hl.1];exact(G1.1 hi).1
    have hr:=Q5 hir;have hm:=C3 hr;have hoc:=hl.2 i _ q' hr hi;have k1:=hb.owned _ hm;have k2:=h.owned _ (AD7 _ hm)
    revert hoc k1 k2
    generalize rest[i]=q
    intro hoc k1 k2
    cases q<;>cases q'<;>unfold Bj7 at hoc<;>first|exact hoc.elim|skip
    · obtain⟨rfl,rfl,hc⟩:=hoc
      obtain⟨_,vs,hv,hd⟩:=k2;exact⟨k1.1,vs,hv,Bo1 hs hd hc⟩
    · obtain⟨rfl,rfl,rfl,hc⟩:=hoc
      obtain⟨_,hlen,xs,hx,hd⟩:=k2;refine⟨k1.1,fun e he=> ?_,xs,?_,Bo1 hs hd (CR8 hc)⟩
      · obtain⟨j,hj⟩:=i5 he
        have hje:=Q5 (show j<_ from hc.1.symm▸(G1.1 hj).1);rw[←(hc.2 j _ e hje hj).1];exact hlen _ (C3 hje)
      ·rw[←hc.1];exact hx
    · obtain⟨rfl,rfl,hc⟩:=hoc
      obtain⟨_,vs,hv,hd⟩:=k2;exact⟨k1.1,vs,hv,Bo1 hs hd hc⟩
    ·exact hoc▸k1
    · obtain⟨rfl,rfl⟩:=hoc
      exact⟨k1.1,k2.2⟩
  · have hm:(some b)∈rest'.map Own.blk:=n6.2 ⟨q',hq',hqb⟩
    rw[←oc_map hl]at hm;obtain⟨q,hq,hqb2⟩:=n6.1 hm;exact hb.fresh q hq b hqb2
  ·rw[←oc_fm hl];exact hb.sep
theorem Aj2 {α β:Type}{f:FuncId}{xs:List AV}{inw:List Own}{ok:α→Prop}{O:α→List Own}{V:α→AV}{ok':β→Prop}{O':β→List Own}{V':β→AV}(g:α→β)(S rest:α→List Own)(hs:K3 P f xs inw ok O V)
    (hok:∀a,ok a→ok' (g a)) (hV:∀a,ok a→AQ9 (S a) (V a) (V' (g a))) (hp:∀a,ok a→(O a).Perm (S a++rest a)) (hG:∀a,ok a→∀b,Aa1 inw b→b∈(rest a).filterMap Own.blk) (hl:∀a,ok a→BP0 (S a) (rest a) (O' (g a))):K3 P f xs inw ok' O' V':=fun R w vs hr hd ho hn=>
  (hs R w vs hr hd ho hn).mono fun e w' ⟨a,v,R',h0,h1,h2,h3⟩=>by
    have hc:=AE4 h3 (hp a h0);exact⟨g a,v,AI2 (S a) w' R',hok a h0,h1,hV a h0 _ _ _ R' w' v (z9 hc) h2,Bg5 hc (hG a h0) (hl a h0)⟩
theorem DJ6 {sel:List Own}(q:Own):Bj7 sel q q:=by
  cases q with
  |box b t cs=>exact⟨rfl,rfl,AP0⟩
  |arr v t sz es=>exact⟨rfl,rfl,rfl,G3⟩
  |frz b t cs=>exact⟨rfl,rfl,AP0⟩
  |tab T=>exact rfl
  |obj b D=>exact⟨rfl,rfl⟩
theorem oc_set {sel l:List Own}{i:Nat}{q q':Own}(hi:l[i]? =some q)(hc:Bj7 sel q q'):BP0 sel l (l.set i q'):=⟨by simp,fun j x y hx hy=>by
  by_cases h:i=j
  · subst h
    rw[Ac3 (G1.1 hi).1]at hy;rw[hi]at hx;injection hx with hx;injection hy with hy;subst hx;subst hy;exact hc
  · rw[Ak5 h,hx]at hy
    injection hy with hy;subst hy;exact DJ6 _⟩
theorem BR5 {env:List (Nat×AV)}{q:Own}(k i:Nat)(q':Own)(hi:(own.take k)[i]? =some q)(hc:Bj7 (own.drop k) q q')(hG:∀b,G b→b∈(own.take k).filterMap Own.blk):Le G n ⟨own,env⟩ ⟨(own.take k).set i q',env⟩:=fun w0 R0 R a w ⟨h1,h2,h3⟩=>by
  have h9:=AQ0 (l₁:=own.drop k) (l₂:=own.take k);rw[Ak4]at h9;have hp:X0 G w0 R0 (own.drop k++own.take k) R w:=AE4 h1 h9.symm;exact⟨AI2 (own.drop k) w R,AS4 (z9 hp),Bg5 hp hG (oc_set hi hc),fun t z hz=>z.mono (AS4 (z9 hp)) (h2 t z hz),h3⟩
theorem Am7 {env:List (Nat×AV)}{sel rest:List Own}{q:Own}(is:List Nat)(i:Nat)(q':Own)(hp:pick own is=(sel,rest))(hi:rest[i]? =some q)(hc:Bj7 sel q q')(hG:∀b,G b→b∈rest.filterMap Own.blk):Le G n ⟨own,env⟩ ⟨rest.set i q',env⟩:=fun w0 R0 R a w ⟨h1,h2,h3⟩=>by
  have hk:=Af5 h1 hp;exact⟨AI2 sel w R,AS4 (z9 hk),Bg5 hk hG (oc_set hi hc),fun t z hz=>z.mono (AS4 (z9 hk)) (h2 t z hz),h3⟩
section
variable {T X:Type} {ocs:T→X→List AV} {cs:T→List AV} {ow:T→X→List Own}
theorem Aw0 {own:List Own}{l:List T}{xs:List X}(hlc:∀p x,(∀o∈ow p x,o∈own)→AJ1 own (ocs p x) (cs p))(hlen:xs.length=l.length)(hm:∀o∈nin ow l xs,o∈own):BO8 own (L4 ocs l xs) (l.map cs):=by
  refine⟨by rw[i0 hlen,A8],fun j a b ha hb=> ?_⟩;rw[a8]at hb
  cases hp:l[j]? with
  |none=>rw[hp]at hb;cases hb
  | some p=>
    rw[hp]at hb;have hj:=(G1.1 hp).1;obtain⟨x,hx⟩:∃x,xs[j]? =some x:=⟨_,Q5 qz7⟩;rw[n9 hp hx]at ha;injection ha with ha;injection hb with hb;subst ha;subst hb
    exact hlc p x fun o ho=>hm o (Bv4 hp hx o ho)
end
end
section
variable {P:Program} {G:Nat→Prop} {n:Nat} {own:List Own} {o:Oper}
end
end Go.AV
namespace Go.AV
open Go.RowKit (Below)
section
variable {P:Program} {G:Nat→Prop} {n:Nat} {own:List Own} {o:Oper} {E:P3}
theorem w_tlen {t e:TypeId}{p:Operand}{v:Value}{sz lo:Nat}{es:List (List AV)}(i:Nat)(ho:o.op= .call {callee:= .builtin .len,args:=#[p],argTypes:=#[t]})(ht:P.underlying t=some (.slice e))(hp:Ev E p (AV.is (Ak7 lo sz v)))(hi:own[i]? =some (.arr v e sz es)):OpW P G n own o E (AV.int ((es.length-lo:Nat):Int)):=AL2 fun w0 R0 R a w hcore he=>by
  have h1:a.eval p=_:=H4 hp AV5 he;obtain⟨_,_,xs,hown,_⟩:=hcore.owned _ (C3 hi);obtain⟨oa,c,rfl,_⟩:=BC5 hown;have hel:P.elem t=e:=by simp[Program.elem,ht]
  have h2:=fun (b:Option Addr)=>run_len_slice (P:=P) w t o.type b (es.length-lo) (c-lo) AO1;exact⟨.int .i64 (es.length-lo:Nat),by simp only[execOp,ho,resolve,invoke,builtin,AM8,m4,List.map_nil,h1,Ak7,sliced,h2,Sem.run_bind,Sem.run_pure,Result.andThen_ok,goInt],rfl⟩
theorem Ba6 {t e:TypeId}{p q:Operand}{v:Value}{sz lo:Nat}{es:List (List AV)}{k:Int}(i:Nat)(ho:o.op= .indexAddr t p q)(ht:P.underlying t=some (.slice e))(hsz:∀w,(sizeOf e).run P w= .ok sz w)(hp:Ev E p (AV.is (Ak7 lo sz v)))(hi:own[i]? =some (.arr v e sz es))(hq:Ev E q (AV.int k))(h0:0≤k)(hk:lo+k<es.length):
    OpW P G n own o E (AV.is (AF9 v ((lo+k.toNat)*sz))):=AL2 fun w0 R0 R a w hcore he=>by
  have h1:a.eval p=_:=H4 hp P5 he;have h2:a.eval q= .int .i64 k:=H4 hq P5 he;obtain⟨_,_,xs,hown,_⟩:=hcore.owned _ (C3 hi);rcases hown.2 with ⟨rfl,hz⟩|⟨g,cap,cur,rfl,_,_,hn,_⟩
  ·rw[hz]at hk;simp at hk;omega
  · have hel:P.elem t=e:=by simp[Program.elem,ht]
    have hne:¬cap=lo:=by omega
    have hk2:k<((es.length-lo:Nat):Int):=by omega
    have h3:=run_indexAt_slice (P:=P) w t ((⟨g,0,none⟩:Addr).add (lo*sz)) (es.length-lo) (cap-lo) .i64 k AO1;rw[D9 ⟨h0,hk2⟩,hel,hsz,Result.andThen_ok]at h3;have e:(lo+k.toNat)*sz=lo*sz+k.toNat*sz:=Nat.add_mul _ _ _;refine⟨.pointer (some (Addr.add ((⟨g,0,none⟩:Addr).add (lo*sz)) (k.toNat*sz))),by simp only[execOp,ho,h1,h2,Ak7,sliced,D0 hne,AD8,h3,Sem.run_bind,Sem.run_pure,Result.andThen_ok],?_⟩;rw[e];show Value.pointer _=Value.pointer (some (Addr.add ⟨g,0,none⟩ (lo*sz+k.toNat*sz)))
    simp only[addr_add,Nat.zero_add]
def Y8 (own:List Own) (E:P3) (q:Operand) (sz:Nat) (fs:List (List AV)):Prop:=
  ∀ (G:Nat→Prop) (w0:World) (R0 R:I7) (a:Act) (w:World),X0 G w0 R0 own R w→(∀t,q= .tmp t→∀y,E t=some y→y.den R (a.tmps.getD t undef))→
    (∀f∈fs,f.length=sz)∧∃oa cap vs,a.eval q= .slice oa fs.length cap∧(fs≠[]→∃ad,oa=some ad∧(∀j u,vs[j]? =some u→w.cell? (ad.add j)=some u)∧w5 R vs fs.flatten)
def headV (k sz:Nat):Value→Value
  | .slice a _ c=>sliced a 0 k c sz
  |v=>v
theorem w_ahiT {t e:TypeId}{p q:Operand}{v:Value}{sz:Nat}{es:List (List AV)}{k:Int}(i:Nat)(ho:o.op= .slice t p none (some q) none)(ht:P.underlying t=some (.slice e))(hsz:∀w,(sizeOf e).run P w= .ok sz w)(hp:Ev E p (AV.is v))(hi':own[i]? =some (.arr v e sz es))(hq:Ev E q (AV.int k))(h0:0≤k)(h1:k≤es.length):
    OpW P G n own o E (AV.is (headV k.toNat sz v)):=AL2 fun w0 R0 R a w hcore he=>by
  have e1:a.eval p=v:=H4 hp P5 he;have e2:a.eval q= .int .i64 k:=H4 hq P5 he;have hel:P.elem t=e:=by simp[Program.elem,ht]
  obtain⟨_,_,xs,hown,_⟩:=hcore.owned _ (C3 hi');obtain⟨oa,c,rfl,hnc⟩:=BC5 hown;have hr1:=run_slice_h (P:=P) (w:=w) (t:=t) (a:=oa) (len:=es.length) (cap:=c) AO1 .i64 k h0 qz7;rw[hel,hsz,Result.andThen_ok]at hr1;exact⟨sliced oa 0 k.toNat c sz,by simp only[execOp,ho,e1,e2,AD8,Option.map_none,run_sliceAt_slice w t _ _ _ _ AO1,hr1,Sem.run_bind,Sem.run_pure,Result.andThen_ok],rfl⟩
theorem Aj3 {ops:Array Oper} {t e:TypeId} {p q:Operand} {sz by':Nat} {inf:TypeInfo} {z:Value} {v:Value} {es fs:List (List AV)} (i:Nat) (ho:o.op= .call {callee:= .builtin .append,args:=#[p,q],argTypes:=#[t,t]}) (ht:P.underlying t=some (.slice e)) (hinf:P.info? e=some inf) (hz:inf.zero=some z) (hsz:inf.size=sz) (hby:inf.bytes=by') (hzs:z.cells.size=sz) (hpos:Nat.ble 1 sz=true) (hpos2:Nat.ble 1 by'=true) (hp:Ev E p (AV.is v)) (hq:Y8 own E q sz fs) (hi:own[i]? =some (.arr v e sz es))
    (hlen:(es.length+fs.length)*by'≤140737488355328):OpE P G n own ops o E (fun _:Value=>True) (fun v'=>own.set i (.arr v' e sz (es++fs))) (fun v'=>AV.is v'):=
  fun w0 R0 R a w h1 h3 h2=>by
    have e1:a.eval p=v:=Au7 (ops:=ops) hp AV5 h2;obtain⟨hu,oa,c,ns,e2,hcell⟩:=hq G w0 R0 R a w h1 (fun t ht y hy=>h2 t (Ag5 (by subst ht;exact List.mem_filterMap.2 ⟨.tmp t,by simp[ho,Op.operands,Call.operands],rfl⟩)) y hy);obtain⟨hR,hue,xs,hown,hdc⟩:=h1.owned _ (C3 hi);have hb1:=AT8 hpos;have hb2:=AT8 hpos2;have hsum:es.length+fs.length≤140737488355328:=L7 (Nat.le_mul_of_pos_right _ hb2) hlen;have hufs:∀x∈es++fs,x.length=sz:=fun x hx=>by
      rcases y6.1 hx with h|h
      ·exact hue x h
      ·exact hu x h
    by_cases hfs:fs=[]
    · subst hfs
      have hrun:∃v',(Builtin.append_ #[t,t] o.type #[v,a.eval q]).run P w= .ok v' w∧v'=v:=by
        refine⟨v,?_,rfl⟩;rw[e2];rcases hown.2 with ⟨rfl,hz0⟩|⟨g,cap,cur,rfl,_,_,hnc,_⟩
        · cases oa with
          |none=>simp[Builtin.append_,run_underlying ht,sizeOf,typeInfo,hinf,Builtin.lenOf,Builtin.firstCells,hz0]
          |some ad=>simp[Builtin.append_,run_underlying ht,sizeOf,typeInfo,hinf,Builtin.lenOf,Builtin.firstCells,loadCells,loadCellsFrom,hz0]
        · cases oa with
          |none=>simp[Builtin.append_,run_underlying ht,sizeOf,typeInfo,hinf,Builtin.lenOf,Builtin.firstCells,hnc,storeCells]
          |some ad=>simp[Builtin.append_,run_underlying ht,sizeOf,typeInfo,hinf,Builtin.lenOf,Builtin.firstCells,loadCells,loadCellsFrom,hnc,storeCells]
      obtain⟨v',hr,rfl⟩:=hrun;have hex:(execOp a.eval o).run P w= .ok (.value v') w:=by
        simp only[execOp,ho,resolve,invoke,builtin,Sem.run_bind,Sem.run_pure,Result.andThen_ok,AM8,m4,List.map_nil,e1,hr]
      unfold Oper.wp;rw[hex,Oper.upon_value];have hset:own.set i (.arr v' e sz (es++[]))=own:=by
        rw[T2];obtain⟨hlt,he⟩:=G1.1 hi;rw[←he];exact List.set_getElem_self hlt
      exact⟨v',v',R,trivial,rfl,by show X0 G w0 R0 (own.set i (.arr v' e sz (es++[]))) R w;rw[hset];exact h1,M9.refl _,rfl⟩
    · obtain⟨ad,rfl,hn2,hn3⟩:=hcell hfs
      have hn1:ns.length=fs.flatten.length:=hn3.1;have hnl:ns.length=fs.length*sz:=by rw[hn1,w7 hu]
      have hone:∀u∈ns,u.oneCell'=true:=fun u hm=>by
        obtain⟨j,hj⟩:=i5 hm;have hjl:j<fs.flatten.length:=by rw[←hn1];exact(G1.1 hj).1
        exact(hn3.2 j u _ hj (Q5 hjl)).2
      obtain⟨v',w',hr,hown',hgr,_,hblk⟩:=run_append_own_at (P:=P) w 0 t o.type e inf z sz by' ht hinf hz hsz hby hzs hb1 v es.length xs hown ad fs.length c ns hnl hn2 hone (by unfold maxLen;omega) hlen (E4 _);have hex:(execOp a.eval o).run P w= .ok (.value v') w':=by
        simp only[execOp,ho,resolve,invoke,builtin,Sem.run_bind,Sem.run_pure,Result.andThen_ok,AM8,m4,List.map_nil,e1,e2,hr]
      unfold Oper.wp;rw[hex,Oper.upon_value];refine⟨v',v',R,trivial,rfl,CX8 h1 hi (fun b hb=> ?_) ⟨fun b hb=> ?_,hufs,xs++ns,?_,?_⟩ hgr,M9.refl _,rfl⟩
      · simp only[Own.blk]at hb⊢
        rcases hblk with h|h
        ·exact .inl (by rw[←h];exact hb)
        ·rw[hb]at h;injection h with h;exact .inr h
      · rcases hblk with h|h
        ·exact hR b (by rw[←h];exact hb)
        ·rw[hb]at h;injection h with h;subst h;exact CB7 h1.rle
      ·rw[I2];exact hown'
      ·rw[BA4];exact Am2 hdc hn3
theorem Cp0 {ops:Array Oper}{rest:List Oper}{env:List (Nat×AV)}{K:I3→Prop}{d:Nat}{α:Type}{ok:α→Prop}{W':α→List Own}{V:α→AV}(hg:o.guard=none)(hd:o.dst=some d)(hn:Nat.blt d n=true)(h:OpE P G n own ops o (N4 · env) ok W' V)(k:∀a,ok a→S1 P G n ops rest ⟨W' a,(d,V a)::env⟩ K):S1 P G n ops (o::rest) ⟨own,env⟩ K:=
  AF8 hg fun w0 R0 R a w ⟨h1,h2,h3,h4⟩=>Oper.wp_mono2 (fun a' w' ⟨x,v,R',e0,e1,e2,e3,e4⟩=>by
    subst e1;rw[hd];exact⟨_,R',k x e0,e3,e2,AO9 h2 e3 Au4 e4,by rw[size_put];exact h3,by rw[r7];exact h4⟩) (fun _ _ _ h=>h) (h w0 R0 R a w h1 h3 fun t _ y hy=>h2 t y hy)
theorem CZ1 {q:Operand}{sz:Nat}{fs:List (List AV)}{E:P3}{own:List Own}(hq:Ev E q (AV.list sz fs)):Y8 own E q sz fs:=fun G w0 R0 R a w hc he=>by
  obtain⟨oa,c,e2,_,_,hu,hcell⟩:=hq R a he;refine⟨hu,?_⟩;by_cases hne:fs=[]
  ·exact⟨oa,c,[],e2,fun h=>absurd hne h⟩
  · obtain⟨ad,rfl,hca⟩:=hcell hne
    obtain⟨vs,_,h2,h3⟩:=CH2 (sz:=sz) hc.rle hca;exact⟨_,c,vs,e2,fun _=>⟨ad,rfl,h2,h3⟩⟩
theorem N3 {ops:Array Oper}{t e:TypeId}{p q:Operand}{sz by':Nat}{inf:TypeInfo}{z:Value}{v:Value}{es fs:List (List AV)}(i:Nat)(ho:o.op= .call {callee:= .builtin .append,args:=#[p,q],argTypes:=#[t,t]})(ht:P.underlying t=some (.slice e))(hinf:P.info? e=some inf)(hz:inf.zero=some z)(hsz:inf.size=sz)(hby:inf.bytes=by')(hzs:z.cells.size=sz)(hpos:Nat.ble 1 sz=true)(hpos2:Nat.ble 1 by'=true)(hp:Ev E p (AV.is v))(hq:Ev E q (AV.list sz fs))(hi:own[i]? =some (.arr v e sz es))
    (hlen:(es.length+fs.length)*by'≤140737488355328):OpE P G n own ops o E (fun _:Value=>True) (fun v'=>own.set i (.arr v' e sz (es++fs))) (fun v'=>AV.is v'):=
  Aj3 i ho ht hinf hz hsz hby hzs hpos hpos2 hp (CZ1 hq) hi hlen
theorem I0 {ops:Array Oper}{rest:List Oper}{env:List (Nat×AV)}{K:I3→Prop}{t e:TypeId}{p q:Operand}{d sz by':Nat}{inf:TypeInfo}{z:Value}{v:Value}{es fs:List (List AV)}(i:Nat)(hg:o.guard=none)(ho:o.op= .call {callee:= .builtin .append,args:=#[p,q],argTypes:=#[t,t]})(hd:o.dst=some d)(hn:Nat.blt d n=true)
    (ht:P.underlying t=some (.slice e)) (hinf:P.info? e=some inf) (hz:inf.zero=some z) (hsz:inf.size=sz) (hby:inf.bytes=by') (hzs:z.cells.size=sz) (hpos:Nat.ble 1 sz=true) (hpos2:Nat.ble 1 by'=true) (hp:Ev (N4 · env) p (AV.is v)) (hq:Ev (N4 · env) q (AV.list sz fs)) (hi:own[i]? =some (.arr v e sz es))
    (hlen:(es.length+fs.length)*by'≤140737488355328) (k:∀v',S1 P G n ops rest ⟨own.set i (.arr v' e sz (es++fs)),(d,AV.is v')::env⟩ K):S1 P G n ops (o::rest) ⟨own,env⟩ K:=
  Cp0 hg hd hn (Aj3 i ho ht hinf hz hsz hby hzs hpos hpos2 hp (CZ1 hq) hi hlen) fun v' _=>k v'
theorem BN3 {ops:Array Oper}{rest:List Oper}{env:List (Nat×AV)}{K:I3→Prop}{t e:TypeId}{p q:Operand}{d sz by':Nat}{inf:TypeInfo}{z:Value}{v:Value}{es fs:List (List AV)}(i:Nat)(hg:o.guard=none)(ho:o.op= .call {callee:= .builtin .append,args:=#[p,q],argTypes:=#[t,t]})(hd:o.dst=some d)(hn:Nat.blt d n=true)
    (ht:P.underlying t=some (.slice e)) (hinf:P.info? e=some inf) (hz:inf.zero=some z) (hsz:inf.size=sz) (hby:inf.bytes=by') (hzs:z.cells.size=sz) (hpos:Nat.ble 1 sz=true) (hpos2:Nat.ble 1 by'=true) (hp:Ev (N4 · env) p (AV.is v)) (hq:L9 own (N4 · env) q sz fs) (hne:fs≠[]) (hi:own[i]? =some (.arr v e sz es))
    (hlen:(es.length+fs.length)*by'≤140737488355328) (k:∀v',S1 P G n ops rest ⟨own.set i (.arr v' e sz (es++fs)),(d,AV.is v')::env⟩ K):S1 P G n ops (o::rest) ⟨own,env⟩ K:=
  Cp0 hg hd hn (Aj3 i ho ht hinf hz hsz hby hzs hpos hpos2 hp (fun G w0 R0 R a w hc he=>by
    obtain⟨h1,h2⟩:=hq G w0 R0 R a w hc he;obtain⟨ad,cap,vs,e1,e2⟩:=h2 hne;exact⟨h1,some ad,cap,vs,e1,fun _=>⟨ad,rfl,e2⟩⟩) hi hlen) fun v' _=>k v'
theorem opE_at {o:Oper}{ops:Array Oper}{E:P3}{α:Type}{ok:α→Prop}{V:α→AV}{W':α→List Own}(m:Nat)(W2:α→List Own)(hp:∀a,(W' a).Perm (W2 a))(h:OpE P G n own ops o E ok W' V):OpE P G n own ops o E ok W2 V:=fun w0 R0 R a w h1 h2 h3=>
  Oper.wp_mono2 (fun a' w' ⟨x,v,R',e0,e1,e2,e3,e4⟩=>⟨x,v,R',e0,e1,AE4 e2 (hp x),e3,e4⟩) (fun _ _ _ h=>h) (h w0 R0 R a w h1 h2 h3)
theorem Ap0 {ops:Array Oper}{rest:List Oper}{env:List (Nat×AV)}{K:I3→Prop}{t e:TypeId}{d len sz:Nat}{z:Value}{ps:Array (Nat×Operand)}{asl:List (Nat×List AV)}{cs:List AV}{es:List (List AV)}(hg:o.guard=none)(ho:o.op= .buildSlice t len ps)(hd:o.dst=some d)(hn:Nat.blt d n=true)(ht:P.underlying t=some (.slice e))(hsz:∀w,(sizeOf e).run P w= .ok sz w)(hz:∀w,(zeroValue e).run P w= .ok z w)
    (hl:Nat.ble (len*sz) 1000=true) (hl2:Nat.ble len 1000=true) (hzs:z.cells.size=sz) (h1':z.cells.toList.all Value.oneCell'=true) (hp:EvP (N4 · env) ps.toList asl) (hc:Ah9 (fun i=>some (i*sz,sz)) ((List.range (len*sz)).map fun i=>m7 (z.cells[i % z.cells.size]!)) asl=some cs) (hes:chunks sz len cs=es)
    (k:∀v',S1 P G n ops rest ⟨.arr v' e sz es::own,(d,AV.is v')::env⟩ K):S1 P G n ops (o::rest) ⟨own,env⟩ K:=
  Cp0 hg hd hn (opE_at 0 (fun v'=> .arr v' e sz es::own) (fun _=>AQ0 (l₂:=[_])) (Ay1 ho ht hsz hz hl hl2 hzs h1' hp hc hes)) fun v' _=>k v'
theorem lt_tailm {α:Type}{f:α→List AV}{l:List α}{v:Value}{e:TypeId}{sz lo k:Nat}(hm:Own.arr v e sz (l.map f)∈own)(hlo:lo=k)(hk:k≤l.length):AQ9 own (AV.is (Ak7 lo sz v)) (AV.list sz ((l.drop k).map f)):=fun G w0 R0 R w u hc hu=>by
  subst hlo
  cases (show u=Ak7 lo sz v from hu)
  obtain⟨_,_,xs,hown,_⟩:=hc.owned _ hm;obtain⟨oa,c,hv,hnc⟩:=BC5 hown;have h1:=K2 hm G3 G w0 R0 R w v hc rfl;obtain⟨oa',c',e1,k1,k2,k3,k4⟩:=h1;subst e1;have h9:=Bf7 (R:=AI2 own w R) (lo:=lo) (hi:=(l.map f).length) (es:=l.map f) (oa:=oa') rfl k1 k2 k3 k4 (by rw[A8];exact hk) (K9 _);rw[AO5,←List.map_drop]at h9;exact h9
end
end Go.AV
namespace Go.AV
section
variable {P:Program} {G:Nat→Prop} {n:Nat} {own:List Own} {env:List (Nat×AV)} {fn:Func}
theorem Bo2 {sel:List Own}{cs:List AV}{sz:Nat}(j:Nat)(h:cs[j]? =some AV.nils):AJ1 sel cs (cs.set j (AV.list sz [])):=⟨by rw[a9],fun i x y hx hy=>by
  by_cases e:j=i
  · subst e
    rw[Ac3 (G1.1 h).1]at hy;rw[h]at hx;injection hx with hx;injection hy with hy;subst hx;subst hy
    exact BC8
  · rw[Ak5 e,hx]at hy
    injection hy with hy;subst hy;exact H9⟩
theorem CC4 {E:P3}{q:Operand}{v:Value}{e:TypeId}{sz:Nat}{es:List (List AV)}(i:Nat)(hi:own[i]? =some (.arr v e sz es))(hq:Ev E q (AV.is v)):Y8 own E q sz es:=fun G w0 R0 R a w hc he=>by
  have e1:a.eval q=_:=hq R a he;have hok:=hc.owned _ (C3 hi);have hu:=hok.2.1;refine⟨hu,?_⟩;obtain⟨_,_,xs0,hown0,_⟩:=hok;rcases hown0.2 with ⟨h1,h2⟩|⟨g,cap,cur0,h1,_⟩
  · subst h1
    have h3:es=[]:=Ak2 h2;subst h3;exact⟨none,0,[],e1,fun h=>absurd rfl h⟩
  · subst h1
    by_cases hne:es=[]
    ·subst hne;exact⟨_,cap,[],e1,fun h=>absurd rfl h⟩
    · have hsrc:=Ah0 (own:=own) (E:=E) (q:=q) i hi hq
      obtain⟨_,h7⟩:=hsrc G w0 R0 R a w hc he;obtain⟨ad,c,vs,k1,k2,k3⟩:=h7 hne;exact⟨_,c,vs,k1,fun _=>⟨ad,rfl,k2,k3⟩⟩
theorem Af7 {o:Oper}{ops:Array Oper}{E:P3}{α:Type}{ok:α→Prop}{W':α→List Own}{V:α→AV}{sel rest:α→List Own}{Y:α→AV}(is:List Nat)(hp:∀a,pick (W' a) is=(sel a,rest a))(hl:∀a,AQ9 (sel a) (V a) (Y a))(hG:∀a b,G b→b∈(rest a).filterMap Own.blk)
    (h:OpE P G n own ops o E ok W' V):OpE P G n own ops o E ok rest Y:=fun w0 R0 R a w h1 h2 h3=>
  Oper.wp_mono2 (fun a' w' ⟨x,v,R',e0,e1,e2,e3,e4⟩=>
    have hk:=Af5 e2 (hp x)
    ⟨x,v,AI2 (sel x) w' R',e0,e1,Bg3 hk (hG x),e3.trans (AS4 (z9 hk)),hl x G w0 R0 R' w' v (z9 hk) e4⟩) (fun _ _ _ h=>h) (h w0 R0 R a w h1 h2 h3)
theorem Ap1 (i j sz:Nat){b:Nat}{t:TypeId}{cs:List AV}(hi:own[i]? =some (.box b t cs))(hj:cs[j]? =some AV.nils)(hG:∀b,G b→b∈own.filterMap Own.blk):Le G n ⟨own,env⟩ ⟨own.set i (.box b t (cs.set j (AV.list sz []))),env⟩:=
  Am7 [] i (.box b t (cs.set j (AV.list sz []))) rfl hi ⟨rfl,rfl,Bo2 j hj⟩ hG
theorem Q0 {α:Type}{ok:α→Prop}{O:α→List Own}{V:α→AV}(i j sz:Nat){b:Nat}{t:TypeId}{cs:List AV}(hi:own[i]? =some (.box b t cs))(hj:cs[j]? =some AV.nils)(hG:∀b,G b→b∈own.filterMap Own.blk)
    (k:I5 P G n fn ⟨own.set i (.box b t (cs.set j (AV.list sz []))),env⟩ ok O V):I5 P G n fn ⟨own,env⟩ ok O V:=fun w0 R0 R a w hs=>by
  have hle:Le G n ⟨own,env⟩ ⟨own.set i (.box b t (cs.set j (AV.list sz []))),env⟩:=Am7 [] i (.box b t (cs.set j (AV.list sz []))) rfl hi ⟨rfl,rfl,Bo2 j hj⟩ hG;obtain⟨R1,h1,h2⟩:=hle w0 R0 R a w hs;obtain⟨x,v,R2,g0,g1,g2,g3,g4⟩:=k w0 R0 R1 a w h2;exact⟨x,v,R2,g0,g1,g2,h1.trans g3,g4⟩
theorem BG7 {y:AV}(i j sz:Nat){b:Nat}{t:TypeId}{cs:List AV}(hi:own[i]? =some (.box b t cs))(hj:cs[j]? =some AV.nils)
    (k:K4 P (fun _=>False) n fn ⟨own.set i (.box b t (cs.set j (AV.list sz []))),env⟩ y):K4 P (fun _=>False) n fn ⟨own,env⟩ y:=fun w0 R0 R a w hs=>by
  have hle:Le (fun _=>False) n ⟨own,env⟩ ⟨own.set i (.box b t (cs.set j (AV.list sz []))),env⟩:=Am7 [] i (.box b t (cs.set j (AV.list sz []))) rfl hi ⟨rfl,rfl,Bo2 j hj⟩ Af6;obtain⟨R1,h1,h2⟩:=hle w0 R0 R a w hs;obtain⟨v,R2,h3,h4,h5,h6⟩:=k w0 R0 R1 a w h2;exact⟨v,R2,h3,h4,h1.trans h5,h6⟩
end
section
variable {P:Program} {G:Nat→Prop} {n:Nat} {own:List Own} {o:Oper} {E:P3}
@[reducible] def byteC (b:UInt8):List AV:=[AV.ik .u8 b.toNat]
theorem CH9 :∀(bs:List UInt8),(bs.map byteC).flatten=bs.map fun b=>AV.ik .u8 b.toNat
  |[]=>rfl
  |b::bs=>by rw[m4,Ak1,CH9 bs];rfl
theorem DO3 {w:World} {oa:Option Addr} {c:Nat} {bs:List UInt8} {src dst e:TypeId} (hs:P.underlying src=some (.slice e)) (he:P.underlying e=some (.int .u8)) (hdst:P.underlying dst=some .string)
    (h:bs≠[]→∃a,oa=some a∧∀(j:Nat) (b:UInt8),bs[j]? =some b→w.cell? (a.add j)=some (.int .u8 b.toNat)):
    (convert src dst (.slice oa bs.length c)).run P w= .ok (.string ⟨bs.toArray⟩) w:=by
  cases oa with
  | none=>
    have hb:bs=[]:=by
      cases bs with
      |nil=>rfl
      |cons b t=>obtain⟨a,ha,_⟩:=h X1;cases ha
    subst hb;exact Go.run_convert_bytes_nil (w:=w) (P:=P) src e hs he _ _ dst hdst
  | some a=>
    have hl:(loadCells a bs.length).run P w= .ok ((bs.map fun b=>(b.toNat:Int)).map (Value.int .u8)).toArray w:=by
      have:=run_loadCells_list (P:=P) (w:=w) a ((bs.map fun b=>(b.toNat:Int)).map (Value.int .u8)) (fun j v hj=>by
        rw[a8,a8]at hj
        cases hb:bs[j]? with
        |none=>rw[hb]at hj;cases hj
        | some b=>
          rw[hb]at hj;injection hj with hj;subst hj
          obtain⟨a',ha,hc⟩:=h (by intro hn;rw[hn]at hb;simp at hb);injection ha with ha;subst ha
          exact hc j b hb)
      simpa using this
    rw[Go.run_convert_bytes_string w src dst e _ _ c hs he hdst,Go.run_bytesToString w a bs.length c _ hl,Go.foldl_push_bytes];refine F2 (fun b=>Result.ok (Value.string b) w) ?_;refine ByteArray.ext ?_;apply Array.toList_inj.1
    simp[ByteArray.empty,ByteArray.emptyWithCapacity];show []++bs.map (fun b=>UInt8.ofNat (Int.toNat (b.toNat:Int)))=bs
    rw[AI0];conv=>rhs;rw[←List.map_id bs]
    refine List.map_congr_left fun b _=> ?_;rw[o5];simp
theorem DY2 {R:I7}{w:World}{v:Value}{bs:List UInt8}{src dst e:TypeId}(hr:RLe R w)(hd:(AV.list 1 (bs.map byteC)).den R v)(hs:P.underlying src=some (.slice e))(he:P.underlying e=some (.int .u8))(hdst:P.underlying dst=some .string):
    (convert src dst v).run P w= .ok (.string ⟨bs.toArray⟩) w:=by
  obtain⟨oa,c,rfl,h1,h2,_,h4⟩:=hd;rw[A8];refine DO3 hs he hdst fun hn=> ?_;obtain⟨a,ha,hc⟩:=h4 (by intro hm;exact hn (List.map_eq_nil_iff.1 hm));refine⟨a,ha,fun j b hb=> ?_⟩;rw[CH9]at hc;obtain⟨u,hu,hx,_⟩:=hc j (AV.ik .u8 b.toNat) (by rw[a8,hb];rfl);rw[AY9 hr hu];exact F2 some hx
theorem DJ7 {src dst e:TypeId}{p:Operand}{bs:List UInt8}(ho:o.op= .convert src dst p)(hs:P.underlying src=some (.slice e))(he:P.underlying e=some (.int .u8))(hd:P.underlying dst=some .string)(hp:Ev E p (AV.list 1 (bs.map byteC))):OpW P G n own o E (AV.str bs):=P7 fun R a w hr hv=>by
  have h1:=H4 hp P5 hv;exact⟨.string ⟨bs.toArray⟩,by simp[execOp,ho,DY2 hr h1 hs he hd],rfl⟩
end
end Go.AV
namespace Go.AV
open Go.Proofs
class UnC (t:Nat)(x:outParam (Option TypeDesc)):Prop where
  h:Tryz.prog.underlying t=x
class SzC (t:Nat)(x:outParam Nat):Prop where
  h:∀w,(sizeOf t).run Tryz.prog w= .ok x w
class AgC (t:Nat)(x:outParam Bool):Prop where
  h:∀w,(isAgg t).run Tryz.prog w= .ok x w
class ZvC (t:Nat)(x:outParam Value):Prop where
  h:∀w,(zeroValue t).run Tryz.prog w= .ok x w
class TyC (t:Nat)(x:outParam TypeInfo):Prop where
  h:Tryz.prog.types[t]? =some x
class CaC (f:Nat):Prop where
  h:∀(a:Array Value) (w:World),(callFunc f a).run Tryz.prog w= .ok (.enter f a) w
class PlC (t:Nat)(x:outParam (Array (Nat×Nat))):Prop where
  h:∃fs,Tryz.prog.underlying t=some (.struct fs)∧∀w,(fs.mapM (m:=Sem) fun f=>do pure (f.offset,←sizeOf f.type)).run Tryz.prog w= .ok x w
theorem plL {t:Nat}{x:Array (Nat×Nat)}[u:PlC t x]:∃fs,Tryz.prog.underlying t=some (.struct fs)∧∀w,(fs.mapM (m:=Sem) fun f=>do pure (f.offset,←sizeOf f.type)).run Tryz.prog w= .ok x w:=u.h
theorem unL {t:Nat}{x:Option TypeDesc}[u:UnC t x]:Tryz.prog.underlying t=x:=u.h
theorem szL {t x:Nat}[u:SzC t x]:∀w,(sizeOf t).run Tryz.prog w= .ok x w:=u.h
theorem agL {t:Nat}{x:Bool}[u:AgC t x]:∀w,(isAgg t).run Tryz.prog w= .ok x w:=u.h
theorem zvL {t:Nat}{x:Value}[u:ZvC t x]:∀w,(zeroValue t).run Tryz.prog w= .ok x w:=u.h
instance :AgC 175 true:=⟨Tryz.isAgg175⟩
instance :UnC 58 (some Tryz.t57.desc):=⟨Tryz.underlying58⟩
instance :UnC 9 (some Tryz.t9.desc):=⟨P6⟩
instance :AgC 68 false:=⟨Tryz.isAgg68⟩
instance :AgC 64 true:=⟨S5⟩
instance :AgC 123 false:=⟨Tryz.isAgg123⟩
instance :AgC 5 false:=⟨Tryz.isAgg5⟩
instance :UnC 61 (some Tryz.t61.desc):=⟨H1⟩
instance :SzC 123 1:=⟨Tryz.sizeOf123⟩
instance :SzC 55 6:=⟨AJ8⟩
instance :AgC 214 true:=⟨Tryz.isAgg214⟩
instance :UnC 97 (some Tryz.t96.desc):=⟨Tryz.underlying97⟩
instance :UnC 55 (some Tryz.t54.desc):=⟨T1⟩
instance :AgC 125 true:=⟨Tryz.isAgg125⟩
instance :SzC 163 2:=⟨AY5⟩
instance :AgC 70 true:=⟨Tryz.isAgg70⟩
instance :ZvC 97 (Value.agg #[Value.int IntKind.i64 0,Value.int IntKind.i64 0,E6,E6,E6,E6,E6,E6,E6]):=⟨Tryz.zeroValue97⟩
instance :AgC 24 false:=⟨Tryz.isAgg24⟩
instance :ZvC 214 (Value.agg #[Value.string (ByteArray.mk #[]),E6]):=⟨Tryz.zeroValue214⟩
instance :SzC 70 3:=⟨F9⟩
instance :UnC 60 (some Tryz.t60.desc):=⟨E7⟩
instance :UnC 29 (some Tryz.t29.desc):=⟨M4⟩
instance :SzC 22 1:=⟨Tryz.sizeOf22⟩
instance :UnC 68 (some Tryz.t68.desc):=⟨L3⟩
instance :UnC 62 (some Tryz.t62.desc):=⟨K7⟩
instance :AgC 29 false:=⟨Tryz.isAgg29⟩
instance :AgC 62 false:=⟨Tryz.isAgg62⟩
instance :UnC 92 (some Tryz.t91.desc):=⟨Tryz.underlying92⟩
instance :UnC 105 (some Tryz.t105.desc):=⟨V2⟩
instance :UnC 242 (some Tryz.t242.desc):=⟨Tryz.underlying242⟩
instance :UnC 201 (some Tryz.t201.desc):=⟨AN6⟩
instance :ZvC 144 (Value.agg #[Value.int IntKind.i64 0,Value.int IntKind.i64 0,Value.int IntKind.i64 0,E6,E6]):=⟨Tryz.zeroValue144⟩
instance :ZvC 64 (Value.agg #[Value.int IntKind.i64 0,E6,E6,E6]):=⟨Tryz.zeroValue64⟩
instance :ZvC 5 (Value.int IntKind.u8 0):=⟨Tryz.zeroValue5⟩
instance :UnC 179 (some Tryz.t178.desc):=⟨Tryz.underlying179⟩
instance :SzC 167 7:=⟨y9⟩
instance :ZvC 3 (Value.int IntKind.i64 0):=⟨Tryz.zeroValue3⟩
instance :ZvC 277 (Value.agg #[Value.int IntKind.i64 0,Value.int IntKind.i64 0,Value.int IntKind.i64 0]):=⟨Tryz.zeroValue277⟩
instance :SzC 38 3:=⟨C6⟩
instance :ZvC 179 (Value.agg #[Value.int IntKind.i64 0,Value.int IntKind.i64 0,Value.int IntKind.i64 0,Value.int IntKind.i64 0,Value.int IntKind.i64 0,E6,E6,Value.bool false]):=⟨Tryz.zeroValue179⟩
instance :UnC 25 (some Tryz.t25.desc):=⟨E2⟩
instance :ZvC 25 (E6):=⟨Tryz.zeroValue25⟩
instance :SzC 144 5:=⟨O0⟩
instance :UnC 28 (some Tryz.t28.desc):=⟨D3⟩
instance :UnC 163 (some Tryz.t162.desc):=⟨Tryz.underlying163⟩
instance :AgC 163 true:=⟨Ae2⟩
instance :ZvC 175 (Value.agg #[Value.string (ByteArray.mk #[]),Value.int IntKind.i64 0,Value.bool false]):=⟨Tryz.zeroValue175⟩
instance :ZvC 248 (Value.agg #[Value.string (ByteArray.mk #[]),Value.string (ByteArray.mk #[]),Value.bool false]):=⟨Tryz.zeroValue248⟩
instance :UnC 64 (some Tryz.t63.desc):=⟨AA3⟩
instance :SzC 25 1:=⟨AA0⟩
instance :SzC 5 1:=⟨Tryz.sizeOf5⟩
instance :SzC 175 3:=⟨u5⟩
instance :ZvC 163 (Value.agg #[Value.int IntKind.i64 0,Value.int IntKind.i64 0]):=⟨Tryz.zeroValue163⟩
instance :SzC 84 1:=⟨AR0⟩
instance :UnC 167 (some Tryz.t166.desc):=⟨Tryz.underlying167⟩
instance :SzC 125 3:=⟨Tryz.sizeOf125⟩
instance :ZvC 102 (Value.agg #[Value.int IntKind.i64 0]):=⟨Tryz.zeroValue102⟩
instance :AgC 248 true:=⟨Tryz.isAgg248⟩
instance :UnC 212 (some Tryz.t212.desc):=⟨X7⟩
instance :SzC 105 1:=⟨i8⟩
instance :AgC 58 true:=⟨Tryz.isAgg58⟩
instance :AgC 209 true:=⟨Tryz.isAgg209⟩
instance :SzC 62 1:=⟨AW1⟩
instance :AgC 36 false:=⟨Tryz.isAgg36⟩
instance :ZvC 209 (Value.agg #[Value.int IntKind.i64 0,Value.string (ByteArray.mk #[]),Value.bool false]):=⟨Tryz.zeroValue209⟩
instance :SzC 102 1:=⟨u6⟩
instance :AgC 102 true:=⟨Tryz.isAgg102⟩
instance :AgC 179 true:=⟨Tryz.isAgg179⟩
instance :SzC 248 3:=⟨M8⟩
instance :AgC 38 true:=⟨K6⟩
instance :ZvC 9 (Value.string (ByteArray.mk #[])):=⟨Tryz.zeroValue9⟩
instance :UnC 70 (some Tryz.t69.desc):=⟨q6⟩
instance :UnC 22 (some Tryz.t22.desc):=⟨AL5⟩
instance :AgC 22 false:=⟨Tryz.isAgg22⟩
instance :UnC 248 (some Tryz.t247.desc):=⟨Tryz.underlying248⟩
instance :SzC 75 1:=⟨Tryz.sizeOf75⟩
instance :AgC 53 false:=⟨AM5⟩
instance :SzC 28 1:=⟨Ae3⟩
instance :SzC 179 8:=⟨Q1⟩
instance :AgC 30 false:=⟨Tryz.isAgg30⟩
instance :UnC 38 (some Tryz.t37.desc):=⟨Y7⟩
instance :SzC 209 3:=⟨z5⟩
instance :SzC 27 1:=⟨Tryz.sizeOf27⟩
instance :AgC 75 false:=⟨Tryz.isAgg75⟩
instance :AgC 60 false:=⟨Tryz.isAgg60⟩
instance :UnC 24 (some Tryz.t24.desc):=⟨J0⟩
instance :AgC 32 true:=⟨V5⟩
instance :ZvC 58 (Value.agg #[Value.string (ByteArray.mk #[]),Value.string (ByteArray.mk #[]),Value.bool false]):=⟨Tryz.zeroValue58⟩
instance :SzC 3 1:=⟨E9⟩
instance :ZvC 4 (Value.bool false):=⟨Tryz.zeroValue4⟩
instance :ZvC 118 (Value.agg #[Value.int IntKind.i64 0,Value.bool false,Value.int IntKind.i64 0]):=⟨Tryz.zeroValue118⟩
instance :AgC 144 true:=⟨Ae4⟩
instance :SzC 214 2:=⟨K0⟩
instance :UnC 36 (some Tryz.t36.desc):=⟨D4⟩
instance :AgC 212 false:=⟨Tryz.isAgg212⟩
instance :SzC 4 1:=⟨j3⟩
instance :UnC 42 (some Tryz.t42.desc):=⟨AD2⟩
instance :UnC 175 (some Tryz.t174.desc):=⟨Tryz.underlying175⟩
instance :UnC 214 (some Tryz.t213.desc):=⟨X8⟩
instance :ZvC 167 (Value.agg #[Value.int IntKind.i64 0,Value.int IntKind.i64 0,Value.int IntKind.i64 0,Value.int IntKind.i64 0,E6,E6,Value.bool false]):=⟨Tryz.zeroValue167⟩
instance :UnC 144 (some Tryz.t143.desc):=⟨Tryz.underlying144⟩
instance :AgC 84 false:=⟨Tryz.isAgg84⟩
instance :UnC 202 (some Tryz.t202.desc):=⟨AE7⟩
instance :SzC 53 1:=⟨Y5⟩
instance :AgC 277 true:=⟨AH2⟩
instance :AgC 105 false:=⟨Tryz.isAgg105⟩
instance :AgC 27 false:=⟨Tryz.isAgg27⟩
instance :SzC 9 1:=⟨I6⟩
instance :SzC 30 1:=⟨Tryz.sizeOf30⟩
instance :AgC 55 true:=⟨Tryz.isAgg55⟩
instance :AgC 61 false:=⟨Tryz.isAgg61⟩
instance :UnC 94 (some Tryz.t93.desc):=⟨M5⟩
instance :AgC 94 true:=⟨Tryz.isAgg94⟩
instance :ZvC 32 (Value.agg #[Value.int IntKind.i64 0,Value.int IntKind.i64 0,E6,E6,E6,E6,E6,E6,E6]):=⟨Tryz.zeroValue32⟩
instance :UnC 209 (some Tryz.t208.desc):=⟨Tryz.underlying209⟩
instance :SzC 212 1:=⟨z6⟩
instance :SzC 118 3:=⟨Q2⟩
instance :AgC 4 false:=⟨AF5⟩
instance :SzC 58 3:=⟨W7⟩
instance :SzC 36 1:=⟨AR1⟩
instance :SzC 60 1:=⟨Tryz.sizeOf60⟩
instance :SzC 61 1:=⟨AM9⟩
instance :SzC 29 1:=⟨AW2⟩
instance :UnC 30 (some Tryz.t30.desc):=⟨j8⟩
instance :SzC 277 3:=⟨AB0⟩
instance :AgC 26 false:=⟨Tryz.isAgg26⟩
instance :UnC 32 (some Tryz.t31.desc):=⟨J1⟩
instance :SzC 92 4:=⟨Z1⟩
instance :UnC 50 (some Tryz.t50.desc):=⟨j9⟩
instance :UnC 277 (some Tryz.t276.desc):=⟨Tryz.underlying277⟩
instance :SzC 24 1:=⟨Tryz.sizeOf24⟩
instance :UnC 102 (some Tryz.t101.desc):=⟨Tryz.underlying102⟩
instance :UnC 118 (some Tryz.t117.desc):=⟨AN7⟩
instance :UnC 53 (some Tryz.t53.desc):=⟨N1⟩
instance :AgC 92 true:=⟨AJ9⟩
instance :AgC 167 true:=⟨AK0⟩
instance :UnC 41 (some Tryz.t41.desc):=⟨AL6⟩
instance :ZvC 77 (Value.agg #[E6,Value.int IntKind.i64 0,Value.int IntKind.u64 0]):=⟨Tryz.zeroValue77⟩
instance :ZvC 38 (Value.agg #[E6,Value.int IntKind.i64 0,Value.int IntKind.i64 0]):=⟨Tryz.zeroValue38⟩
instance :UnC 27 (some Tryz.t27.desc):=⟨K1⟩
instance :UnC 125 (some Tryz.t124.desc):=⟨Tryz.underlying125⟩
instance :ZvC 55 (Value.agg #[Value.int IntKind.i64 0,E6,E6,Value.int IntKind.i64 0,Value.int IntKind.i64 0,Value.int IntKind.i64 0]):=⟨Tryz.zeroValue55⟩
instance :AgC 118 true:=⟨AW3⟩
instance :UnC 26 (some Tryz.t26.desc):=⟨F8⟩
instance :UnC 84 (some Tryz.t84.desc):=⟨U6⟩
instance :SzC 64 4:=⟨K8⟩
instance :ZvC 94 (Value.agg #[E6,E6,E6,Value.int IntKind.i64 0,Value.int IntKind.i64 0,Value.bool false,Value.int IntKind.i64 0,Value.bool false,Value.bool false,Value.bool false]):=⟨Tryz.zeroValue94⟩
instance :AgC 9 false:=⟨u3⟩
instance :SzC 68 1:=⟨AW4⟩
instance :AgC 28 false:=⟨Tryz.isAgg28⟩
instance :SzC 26 1:=⟨Tryz.sizeOf26⟩
instance :AgC 25 false:=⟨Tryz.isAgg25⟩
instance :UnC 123 (some Tryz.t123.desc):=⟨G5⟩
instance :UnC 77 (some Tryz.t76.desc):=⟨Tryz.underlying77⟩
instance :ZvC 84 (E6):=⟨Tryz.zeroValue84⟩
instance :ZvC 125 (Value.agg #[E6,E6,E6]):=⟨Tryz.zeroValue125⟩
instance :SzC 94 10:=⟨U3⟩
instance :ZvC 70 (Value.agg #[Value.bool false,E6,Value.int IntKind.i64 0]):=⟨Tryz.zeroValue70⟩
instance :SzC 32 9:=⟨P4⟩
instance :ZvC 62 (E6):=⟨Tryz.zeroValue62⟩
instance :AgC 3 false:=⟨O3⟩
instance :ZvC 92 (Value.agg #[Value.int IntKind.i64 0,Value.string (ByteArray.mk #[]),Value.string (ByteArray.mk #[]),Value.int IntKind.i64 0]):=⟨Tryz.zeroValue92⟩
instance :ZvC 105 (E6):=⟨Tryz.zeroValue105⟩
instance :PlC 32 #[(0,1),(1,1),(2,1),(3,1),(4,1),(5,1),(6,1),(7,1),(8,1)]:=⟨_,J1,fun w=>by kernel_rfl⟩
instance :PlC 38 #[(0,1),(1,1),(2,1)]:=⟨_,Y7,fun w=>by kernel_rfl⟩
instance :PlC 55 #[(0,1),(1,1),(2,1),(3,1),(4,1),(5,1)]:=⟨_,T1,fun w=>by kernel_rfl⟩
instance :PlC 58 #[(0,1),(1,1),(2,1)]:=⟨_,Tryz.underlying58,fun w=>by kernel_rfl⟩
instance :PlC 64 #[(0,1),(1,1),(2,1),(3,1)]:=⟨_,AA3,fun w=>by kernel_rfl⟩
instance :PlC 70 #[(0,1),(1,1),(2,1)]:=⟨_,q6,fun w=>by kernel_rfl⟩
instance :PlC 77 #[(0,1),(1,1),(2,1)]:=⟨_,Tryz.underlying77,fun w=>by kernel_rfl⟩
instance :PlC 92 #[(0,1),(1,1),(2,1),(3,1)]:=⟨_,Tryz.underlying92,fun w=>by kernel_rfl⟩
instance :PlC 97 #[(0,9)]:=⟨_,Tryz.underlying97,fun w=>by kernel_rfl⟩
instance :PlC 102 #[(0,1)]:=⟨_,Tryz.underlying102,fun w=>by kernel_rfl⟩
instance :PlC 118 #[(0,1),(1,1),(2,1)]:=⟨_,AN7,fun w=>by kernel_rfl⟩
instance :PlC 125 #[(0,1),(1,1),(2,1)]:=⟨_,Tryz.underlying125,fun w=>by kernel_rfl⟩
instance :PlC 144 #[(0,1),(1,1),(2,1),(3,1),(4,1)]:=⟨_,Tryz.underlying144,fun w=>by kernel_rfl⟩
instance :PlC 163 #[(0,1),(1,1)]:=⟨_,Tryz.underlying163,fun w=>by kernel_rfl⟩
instance :PlC 167 #[(0,1),(1,1),(2,1),(3,1),(4,1),(5,1),(6,1)]:=⟨_,Tryz.underlying167,fun w=>by kernel_rfl⟩
instance :PlC 175 #[(0,1),(1,1),(2,1)]:=⟨_,Tryz.underlying175,fun w=>by kernel_rfl⟩
instance :PlC 179 #[(0,1),(1,7)]:=⟨_,Tryz.underlying179,fun w=>by kernel_rfl⟩
instance :PlC 209 #[(0,1),(1,1),(2,1)]:=⟨_,Tryz.underlying209,fun w=>by kernel_rfl⟩
instance :PlC 214 #[(0,1),(1,1)]:=⟨_,X8,fun w=>by kernel_rfl⟩
instance :PlC 248 #[(0,1),(1,1),(2,1)]:=⟨_,Tryz.underlying248,fun w=>by kernel_rfl⟩
instance :PlC 277 #[(0,1),(1,1),(2,1)]:=⟨_,Tryz.underlying277,fun w=>by kernel_rfl⟩
theorem omA {p:Prop}(h:p:=by first|omega|((try simp only[Cl5,X4,szR]at*);omega)|(have hc2:=hc;simp only[bolZs,m6,BO6,A8,H0]at hc2;omega)):p:=h
theorem fsl {fs:Array Field}{k:Nat}{fd:Field}(h:fs.toList[k]? =some fd):fs[k]? =some fd:=by rw[←h];simp
section
variable {P:Program} {G:Nat→Prop} {n:Nat}
theorem w_fldB2 {own:List Own}{o:Oper}{E:P3}{t:TypeId}{p:Operand}{b off:Nat}{fs:Array Field}{fd:Field}{k j:Nat}(m:Nat)(ho:o.op= .fieldAddr t p k)(ht:P.underlying t=some (.struct fs))(hk:fs.toList[k]? =some fd)(hs:∀w,(sizeOf fd.type).run P w= .ok (j+1) w)
    (hp:Ev E p (AV.ptr b off)) (hm:off+fd.offset=m):OpW P G n own o E (AV.ptr b m):=Ba5 m ho ht (fsl hk) hs hp hm
theorem w_fldE2 {own:List Own}{o:Oper}{E:P3}{t:TypeId}{p:Operand}{fs:Array Field}{fd:Field}{k m:Nat}{xs ys:List AV}(ho:o.op= .fieldAddr t p k)(ht:P.underlying t=some (.struct fs))(hk:fs.toList[k]? =some fd)(hs:∀w,(sizeOf fd.type).run P w= .ok (m+1) w)
    (hp:Ev E p (AV.eptr xs)) (hy:xs.drop fd.offset=ys):OpW P G n own o E (AV.eptr ys):=w_fldE ho ht (fsl hk) hs hp hy
theorem w_build2 {own:List Own}{o:Oper}{E:P3}{t:TypeId}{z:Value}{ps:Array (Nat×Operand)}{asl:List (Nat×List AV)}{places:Array (Nat×Nat)}{cs:List AV}(ho:o.op= .build t ps)(hz:∀w,(zeroValue t).run P w= .ok z w)
    (hpl:∃fs,P.underlying t=some (.struct fs)∧∀w,(fs.mapM (m:=Sem) fun f=>do pure (f.offset,←sizeOf f.type)).run P w= .ok places w) (h1':z.cells.toList.all Value.oneCell'=true) (hp:EvP E ps.toList asl) (hc:Ah9 (places[·]?) (z.cells.toList.map m7) asl=some cs):
    OpW P G n own o E (AV.agg cs):=by
  obtain⟨fs,h1,h2⟩:=hpl;exact Q7 ho h1 hz h2 h1' hp hc
theorem gSq {B:Prop}{ops:Array Oper}{l:List Oper}{s:I3}{K:I3→Prop}(h:B→S1 P G n ops l s K):B→S1 P G n ops l s K:=h
theorem gCh {B:Prop}{own:List Own}{ops:Array Oper}{l:List Oper}{e:List (Nat×AV)}{K:List (Nat×AV)→Prop}(h:B→Ai3 P G n own ops l e K):B→Ai3 P G n own ops l e K:=h
theorem gBc {B:Prop}{I:List Own→Prop}{ops:Array Oper}{l:List (Nat×Bool)}{e:List (Nat×AV)}{W:List Own}{K:List (Nat×AV)→List Own→Prop}(h:B→BCh P G n I ops l e W K):B→BCh P G n I ops l e W K:=h
theorem gBt {B:Prop}{I:List Own→Prop}{ops:Array Oper}{l:OT}{e:List (Nat×AV)}{W:List Own}{K:List (Nat×AV)→List Own→Prop}(h:B→BT P G n I ops l e W K):B→BT P G n I ops l e W K:=h
theorem gB3 {B:Prop}{I:List Own→Prop}{ops:Array Oper}{l:OT3}{e:List (Nat×AV)}{W:List Own}{K:List (Nat×AV)→List Own→Prop}(h:B→BT3 P G n I ops l e W K):B→BT3 P G n I ops l e W K:=h
end
theorem ix0 {α:Type}{l:List α}{x:α}(h:l[0]? =some x):l[0]? =some x:=h
theorem ix1 {α:Type}{l:List α}{x:α}(h:l[1]? =some x):l[1]? =some x:=h
theorem ix2 {α:Type}{l:List α}{x:α}(h:l[2]? =some x):l[2]? =some x:=h
theorem ix3 {α:Type}{l:List α}{x:α}(h:l[3]? =some x):l[3]? =some x:=h
theorem ix4 {α:Type}{l:List α}{x:α}(h:l[4]? =some x):l[4]? =some x:=h
theorem ix5 {α:Type}{l:List α}{x:α}(h:l[5]? =some x):l[5]? =some x:=h
theorem ix6 {α:Type}{l:List α}{x:α}(h:l[6]? =some x):l[6]? =some x:=h
theorem ix7 {α:Type}{l:List α}{x:α}(h:l[7]? =some x):l[7]? =some x:=h
theorem ix8 {α:Type}{l:List α}{x:α}(h:l[8]? =some x):l[8]? =some x:=h
theorem ix9 {α:Type}{l:List α}{x:α}(h:l[9]? =some x):l[9]? =some x:=h
theorem ix10 {α:Type}{l:List α}{x:α}(h:l[10]? =some x):l[10]? =some x:=h
theorem ix11 {α:Type}{l:List α}{x:α}(h:l[11]? =some x):l[11]? =some x:=h
theorem ix12 {α:Type}{l:List α}{x:α}(h:l[12]? =some x):l[12]? =some x:=h
theorem ix13 {α:Type}{l:List α}{x:α}(h:l[13]? =some x):l[13]? =some x:=h
theorem ix14 {α:Type}{l:List α}{x:α}(h:l[14]? =some x):l[14]? =some x:=h
theorem ix15 {α:Type}{l:List α}{x:α}(h:l[15]? =some x):l[15]? =some x:=h
theorem ixA {p:Prop}(h:p:=by
  first
  |(apply ix0;apply Eq.refl)
  |(apply ix1;apply Eq.refl)
  |(apply ix2;apply Eq.refl)
  |(apply ix3;apply Eq.refl)
  |(apply ix4;apply Eq.refl)
  |(apply ix5;apply Eq.refl)
  |(apply ix6;apply Eq.refl)
  |(apply ix7;apply Eq.refl)
  |(apply ix8;apply Eq.refl)
  |(apply ix9;apply Eq.refl)
  |(apply ix10;apply Eq.refl)
  |(apply ix11;apply Eq.refl)
  |(apply ix12;apply Eq.refl)
  |(apply ix13;apply Eq.refl)
  |(apply ix14;apply Eq.refl)
  |(apply ix15;apply Eq.refl)):p:=h
theorem evA {p:Prop}(h:p:=by
  first
  |(apply A7;apply Eq.refl;exact hc)
  |(apply A7;apply Eq.refl;exact(and_l hc))
  |(apply A0;apply Eq.refl)
  |apply L1
  |apply Ao8):p:=h
theorem eiA {p:Prop}(h:p:=by
  first
  |(apply evif_w;apply Eq.refl)
  |(apply evif_w2;apply Eq.refl;exact hc)
  |(apply evif;exact evA)):p:=h
theorem asA {p:Prop}(h:p:=by
  first
  |apply e6
  |apply X2
  |apply Ai9
  |apply j4
  |apply S8):p:=h
theorem bpA {p:Prop}(h:p:=by (repeat (apply B6;exact evA;exact asA));apply N6):p:=h
theorem gdA {p:Prop}(h:p:=by
  first
  |(apply Q3;apply Eq.refl;apply Eq.refl;apply Eq.refl)
  |(apply Y6;apply Eq.refl;apply Eq.refl;apply Eq.refl)
  |(apply Y9;apply Eq.refl;apply Eq.refl;apply Eq.refl)
  |(apply CB4;apply Eq.refl;apply Eq.refl;apply Eq.refl)):p:=h
theorem nm0 {x:Nat}(h:x=0):x=0:=h
theorem nm1 {x:Nat}(h:x=1):x=1:=h
theorem nm2 {x:Nat}(h:x=2):x=2:=h
theorem nm3 {x:Nat}(h:x=3):x=3:=h
theorem nm4 {x:Nat}(h:x=4):x=4:=h
theorem nm5 {x:Nat}(h:x=5):x=5:=h
theorem nm6 {x:Nat}(h:x=6):x=6:=h
theorem nm7 {x:Nat}(h:x=7):x=7:=h
theorem nm8 {x:Nat}(h:x=8):x=8:=h
theorem nm9 {x:Nat}(h:x=9):x=9:=h
theorem nm10 {x:Nat}(h:x=10):x=10:=h
theorem nm11 {x:Nat}(h:x=11):x=11:=h
theorem nm12 {x:Nat}(h:x=12):x=12:=h
theorem nm13 {x:Nat}(h:x=13):x=13:=h
theorem nm14 {x:Nat}(h:x=14):x=14:=h
theorem nm15 {x:Nat}(h:x=15):x=15:=h
theorem nm16 {x:Nat}(h:x=16):x=16:=h
theorem nm17 {x:Nat}(h:x=17):x=17:=h
theorem nm18 {x:Nat}(h:x=18):x=18:=h
theorem nm19 {x:Nat}(h:x=19):x=19:=h
theorem nm20 {x:Nat}(h:x=20):x=20:=h
theorem nm21 {x:Nat}(h:x=21):x=21:=h
theorem nm22 {x:Nat}(h:x=22):x=22:=h
theorem nm23 {x:Nat}(h:x=23):x=23:=h
theorem nm24 {x:Nat}(h:x=24):x=24:=h
theorem nm25 {x:Nat}(h:x=25):x=25:=h
theorem nm26 {x:Nat}(h:x=26):x=26:=h
theorem nm27 {x:Nat}(h:x=27):x=27:=h
theorem nm28 {x:Nat}(h:x=28):x=28:=h
theorem nm29 {x:Nat}(h:x=29):x=29:=h
theorem nm30 {x:Nat}(h:x=30):x=30:=h
theorem nm31 {x:Nat}(h:x=31):x=31:=h
theorem nm32 {x:Nat}(h:x=32):x=32:=h
theorem nmA {p:Prop}(h:p:=by
  first
  |(apply nm0;apply Eq.refl)
  |(apply nm1;apply Eq.refl)
  |(apply nm2;apply Eq.refl)
  |(apply nm3;apply Eq.refl)
  |(apply nm4;apply Eq.refl)
  |(apply nm5;apply Eq.refl)
  |(apply nm6;apply Eq.refl)
  |(apply nm7;apply Eq.refl)
  |(apply nm8;apply Eq.refl)
  |(apply nm9;apply Eq.refl)
  |(apply nm10;apply Eq.refl)
  |(apply nm11;apply Eq.refl)
  |(apply nm12;apply Eq.refl)
  |(apply nm13;apply Eq.refl)
  |(apply nm14;apply Eq.refl)
  |(apply nm15;apply Eq.refl)
  |(apply nm16;apply Eq.refl)
  |(apply nm17;apply Eq.refl)
  |(apply nm18;apply Eq.refl)
  |(apply nm19;apply Eq.refl)
  |(apply nm20;apply Eq.refl)
  |(apply nm21;apply Eq.refl)
  |(apply nm22;apply Eq.refl)
  |(apply nm23;apply Eq.refl)
  |(apply nm24;apply Eq.refl)
  |(apply nm25;apply Eq.refl)
  |(apply nm26;apply Eq.refl)
  |(apply nm27;apply Eq.refl)
  |(apply nm28;apply Eq.refl)
  |(apply nm29;apply Eq.refl)
  |(apply nm30;apply Eq.refl)
  |(apply nm31;apply Eq.refl)
  |(apply nm32;apply Eq.refl)):p:=h
theorem vA {p:Prop}(h:p:=by
  first
  |(apply Ba1;apply Eq.refl;exact evA)
  |(apply G7;apply Eq.refl;exact evA)
  |(apply w_fldB2;apply Eq.refl;exact unL;apply Eq.refl;exact szL;exact evA;exact nmA)
  |(apply BR3;apply Eq.refl;exact evA;exact ixA;exact agL;apply Eq.refl)
  |(apply DI8;apply Eq.refl;exact evA;exact ixA;exact agL;exact szL;apply Eq.refl)
  |(apply w_llen;apply Eq.refl;exact unL;exact evA)
  |(apply DX2;apply Eq.refl;exact evA;apply Eq.refl)
  |(apply w_not;apply Eq.refl;exact evA)
  |(apply w_loadE1;apply Eq.refl;exact evA;exact agL;apply Eq.refl)
  |(apply w_loadE;apply Eq.refl;exact evA;exact agL;exact szL)
  |(apply w_fldE2;apply Eq.refl;exact unL;apply Eq.refl;exact szL;exact evA;apply Eq.refl)
  |(apply w_nilB;apply Eq.refl;exact evA)
  |(apply Cl6;apply Eq.refl;exact evA;exact eiA)
  |(apply w_or;apply Eq.refl;exact evA;exact eiA)
  |(apply w_lss;apply Eq.refl;exact evA;exact evA)
  |(apply w_eql;apply Eq.refl;exact evA;exact evA)
  |(apply Ba2;apply Eq.refl;exact evA;exact evA;exact omA)
  |(apply w_subi;apply Eq.refl;exact evA;exact evA;exact omA)
  |(apply w_gtr;apply Eq.refl;exact evA;exact evA)
  |(apply w_leq;apply Eq.refl;exact evA;exact evA)
  |(apply w_geq;apply Eq.refl;exact evA;exact evA)
  |(apply w_neq;apply Eq.refl;exact evA;exact evA)
  |(apply Al9;apply Eq.refl;exact evA;exact evA)
  |(apply Cn4;apply Eq.refl;exact evA;exact evA)
  |(apply w_alen;apply Eq.refl;exact unL;exact evA;exact ixA)
  |(apply w_slen;apply Eq.refl;exact unL;exact evA)
  |(apply w_build2;apply Eq.refl;exact zvL;exact plL;apply Eq.refl;exact bpA;apply Eq.refl)
  |(apply AL3;apply Eq.refl;exact unL;exact szL;exact zvL;apply Eq.refl;apply Eq.refl;apply Eq.refl;apply Eq.refl;exact bpA;apply Eq.refl;apply Eq.refl)):p:=h
theorem s1 {A B:Prop}(h:B→A:=by
 first
 |((with_reducible apply gSq);first|(apply Bf2;apply Eq.refl;apply Eq.refl;apply Eq.refl;exact vA)|apply sq_nil|(apply AF2;apply Eq.refl;apply Eq.refl;exact gdA;exact(fun hc=>vA))|(apply DN8;apply Eq.refl;apply Eq.refl;apply Eq.refl;exact evA;exact evA;exact asA;exact ixA;exact szL;apply Eq.refl)|(apply N2;apply Eq.refl;apply Eq.refl;apply Eq.refl;exact evA;exact evA;exact asA;exact ixA;exact szL;apply Eq.refl)|(apply sq_alloc;apply Eq.refl;apply Eq.refl;apply Eq.refl;apply Eq.refl;exact zvL;apply Eq.refl)|(apply sq_box;apply Eq.refl;apply Eq.refl;apply Eq.refl;apply Eq.refl;exact evA))
 |((with_reducible apply gCh);first|(apply B3;apply Eq.refl;apply Eq.refl;exact vA)|apply ch_nil|(apply M1;apply Eq.refl;exact gdA;exact(fun hc=>vA)))
 |((with_reducible apply gBc);first|(apply N0;apply Eq.refl;apply Eq.refl;apply Eq.refl;exact(fun ext=>vA))|apply bc_nil)
 |((with_reducible apply gBt);first|(apply N8;apply Eq.refl;apply Eq.refl;apply Eq.refl;exact(fun ext=>vA))|apply bt_nil|apply bt_e1)
 |((with_reducible apply gB3);first|(apply AZ5;apply Eq.refl;apply Eq.refl;apply Eq.refl;exact(fun ext=>vA))|apply bt3_nil|apply bt3_e1)
 |apply awp_seq
 |apply DN1
 |apply DX1
 |apply awp_skip
 |apply awp_ret
 |apply awp_exit
 |(apply CR6;kernel_rfl;kernel_rfl;apply Eq.refl)):B→A:=h
theorem s2 {A B C:Prop}(g:B→A)(f:C→B):C→A:=fun c=>g (f c)
theorem t1 {A B:Prop}(h:B→A:=by exact s1):B→A:=h
theorem t2 {A B:Prop}(h:B→A:=by exact s2 t1 t1):B→A:=h
theorem t4 {A B:Prop}(h:B→A:=by exact s2 t2 t2):B→A:=h
theorem t8 {A B:Prop}(h:B→A:=by exact s2 t4 t4):B→A:=h
theorem t16 {A B:Prop}(h:B→A:=by exact s2 t8 t8):B→A:=h
theorem t32 {A B:Prop}(h:B→A:=by exact s2 t16 t16):B→A:=h
theorem R1 {A B:Prop}(k:B)(h:B→A:=by exact t1):A:=h k
theorem R2 {A B:Prop}(k:B)(h:B→A:=by exact t2):A:=h k
theorem R3 {A B:Prop}(k:B)(h:B→A:=by exact s2 t2 t1):A:=h k
theorem R4 {A B:Prop}(k:B)(h:B→A:=by exact t4):A:=h k
theorem R5 {A B:Prop}(k:B)(h:B→A:=by exact s2 t4 t1):A:=h k
theorem R6 {A B:Prop}(k:B)(h:B→A:=by exact s2 t4 t2):A:=h k
theorem R7 {A B:Prop}(k:B)(h:B→A:=by exact s2 t4 (s2 t2 t1)):A:=h k
theorem R8 {A B:Prop}(k:B)(h:B→A:=by exact t8):A:=h k
theorem R9 {A B:Prop}(k:B)(h:B→A:=by exact s2 t8 t1):A:=h k
theorem R10 {A B:Prop}(k:B)(h:B→A:=by exact s2 t8 t2):A:=h k
theorem R11 {A B:Prop}(k:B)(h:B→A:=by exact s2 t8 (s2 t2 t1)):A:=h k
theorem R12 {A B:Prop}(k:B)(h:B→A:=by exact s2 t8 t4):A:=h k
theorem R13 {A B:Prop}(k:B)(h:B→A:=by exact s2 t8 (s2 t4 t1)):A:=h k
theorem R14 {A B:Prop}(k:B)(h:B→A:=by exact s2 t8 (s2 t4 t2)):A:=h k
theorem R15 {A B:Prop}(k:B)(h:B→A:=by exact s2 t8 (s2 t4 (s2 t2 t1))):A:=h k
theorem R16 {A B:Prop}(k:B)(h:B→A:=by exact t16):A:=h k
theorem R17 {A B:Prop}(k:B)(h:B→A:=by exact s2 t16 t1):A:=h k
theorem R18 {A B:Prop}(k:B)(h:B→A:=by exact s2 t16 t2):A:=h k
theorem R19 {A B:Prop}(k:B)(h:B→A:=by exact s2 t16 (s2 t2 t1)):A:=h k
theorem R20 {A B:Prop}(k:B)(h:B→A:=by exact s2 t16 t4):A:=h k
theorem R22 {A B:Prop}(k:B)(h:B→A:=by exact s2 t16 (s2 t4 t2)):A:=h k
theorem R23 {A B:Prop}(k:B)(h:B→A:=by exact s2 t16 (s2 t4 (s2 t2 t1))):A:=h k
theorem R24 {A B:Prop}(k:B)(h:B→A:=by exact s2 t16 t8):A:=h k
theorem R27 {A B:Prop}(k:B)(h:B→A:=by exact s2 t16 (s2 t8 (s2 t2 t1))):A:=h k
theorem R28 {A B:Prop}(k:B)(h:B→A:=by exact s2 t16 (s2 t8 t4)):A:=h k
theorem R33 {A B:Prop}(k:B)(h:B→A:=by exact s2 t32 t1):A:=h k
theorem R35 {A B:Prop}(k:B)(h:B→A:=by exact s2 t32 (s2 t2 t1)):A:=h k
theorem R36 {A B:Prop}(k:B)(h:B→A:=by exact s2 t32 t4):A:=h k
theorem R40 {A B:Prop}(k:B)(h:B→A:=by exact s2 t32 t8):A:=h k
theorem zA {E:P3}{t:Nat}{x:AV}(h:E t=some x:=by exact rfl):Ev E (.tmp t) x:=A0 h
theorem zE {p:Prop}(h:p:=by first|exact zA|exact A7 rfl hc|apply L1|apply Ao8):p:=h
theorem zS {p:Prop}(h:p:=by (repeat (apply A2;exact zE));exact A9):p:=h
theorem zR {A B:Prop}(h:B→A:=by intro zvz;repeat' first|exact zvz|refine R1 ?_):B→A:=h
section
variable {P:Program} {G:Nat→Prop} {n:Nat} {Q:Exit→I3→Prop} {s:I3} {own:List Own}
theorem zC {A:Prop}{c:Nat}{x y:Code}{b:Bool}(ht:b=true→AWP P G n x Q s)(hf:b=false→AWP P G n y Q s)(h:AWP P G n (.cond (.tmp c) x y) Q s→A:=by exact zR)(hc:N4 c s.env=some (AV.bool b):=by exact rfl):A:=h (A3 ht hf hc)
theorem zK {A:Prop}{c:Nat}{x y:Code}{b:Bool}{p u v:Prop}{d:Decidable p}(ht:b=true→u→AWP P G n x Q s)(hf:b=false→v→AWP P G n y Q s)(h:AWP P G n (.cond (.tmp c) x y) Q s→A:=by exact zR)(hc:N4 c s.env=some (AV.bool b):=by exact rfl)(hb:b=@decide p d:=by exact rfl)(e:p=u:=by (try simp only[List.length_map]);exact rfl)(e':(¬p)=v:=by (try simp only[List.length_map]);exact rfl):A:=h (A3 (fun t=>ht t (e▸of_decide_eq_true (hb▸t))) (fun t=>hf t (e'▸of_decide_eq_false (hb▸t))) hc)
theorem zL {sel rest:List Own}{c:Code}{env:List (Nat×AV)}(is:List Nat)(k:AWP P G n c Q ⟨sel++rest,env⟩)(h:pick own is=(sel,rest):=by exact rfl):AWP P G n c Q ⟨own,env⟩:=AWP.le (B4 is h) k
variable {o:Oper} {ops:Array Oper} {E:P3} {env:List (Nat×AV)} {rs:List Oper} {K:I3→Prop} {d:Nat} {f:FuncId} {args:Array Operand} {tys:Array TypeId} {ps:List Operand} {xs:List AV} {x y:AV}
theorem zG (h:(o.op,args.toList)=(.call {callee:= .value (.func f),args:=args,argTypes:=tys},ps))(hc:∀(vs:Array Value) (w:World),(callFunc f vs).run P w= .ok (.enter f vs) w)(hs:J6 P f xs y)(he:EvL E ps xs):OpW P G n own o E y:=A4 (congrArg Prod.fst h) hc (congrArg Prod.snd h) hs he
theorem zF (h:(o.guard,o.dst,Nat.blt d n,o.op,args.toList)=(none,some d,true,.call {callee:= .value (.func f),args:=args,argTypes:=tys},ps))(hc:∀(vs:Array Value) (w:World),(callFunc f vs).run P w= .ok (.enter f vs) w)(hs:J6 P f xs x)(he:EvL (N4 · env) ps xs)(k:S1 P G n ops rs ⟨own,(d,x)::env⟩ K):S1 P G n ops (o::rs) ⟨own,env⟩ K:=by
  simp only[Prod.mk.injEq]at h
  exact A1 (by rw[h.1,h.2.1,h.2.2.1]) (A4 h.2.2.2.1 hc h.2.2.2.2 hs he) k
theorem zI {sel rest:List Own}{α:Type}{ok:α→Prop}{O:α→List Own}{V:α→AV}(is:List Nat)(h:(o.guard,o.op,o.dst,Nat.blt d n,args.toList)=(none,.call {callee:= .value (.func f),args:=args,argTypes:=tys},some d,true,ps))(hc:∀(vs:Array Value) (w:World),(callFunc f vs).run P w= .ok (.enter f vs) w)(hs:K3 P f xs sel ok O V)(he:EvL (N4 · env) ps xs)(hp:pick own is=(sel,rest))(k:∀a,ok a→S1 P G n ops rs ⟨O a++rest,(d,V a)::env⟩ K):S1 P G n ops (o::rs) ⟨own,env⟩ K:=by
  simp only[Prod.mk.injEq]at h
  exact G8 is h.1 h.2.1 h.2.2.1 h.2.2.2.1 hc h.2.2.2.2 hs he hp k
theorem zX {α:Type}{f:α→List AV}{l:List α}{t e:TypeId}{p q:Operand}{sz k:Nat}{i:Int}{x:α}(hx:l[k]? =some x)(ho:o.op= .indexAddr t p q:=by exact rfl)(ht:Tryz.prog.underlying t=some (.slice e):=by exact unL)(hsz:∀w,(sizeOf e).run Tryz.prog w= .ok sz w:=by exact szL)(hp:Ev E p (AV.list sz (l.map f)):=by exact zA)(hq:Ev E q (AV.int i):=by exact zA)(hk:i=(k:Int):=by exact qz3):OpW Tryz.prog G n own o E (AV.eptr (f x)):=C2 ho ht hsz hp hq hx hk
end
theorem zq0 {A B:Prop}(k:B)(h:B→A:=by exact Y4 rfl rfl rfl (fun ext=>Q7 (places:=#[(0,1),(1,1),(2,1),(3,1),(4,1),(5,1),(6,1),(7,1),(8,1)]) rfl J1 zeroValue32 (fun w=>by kernel_rfl) rfl (B6 zA (F6 one_v48) (B6 zA (S8 _ _) (B6 zA (F6 one_v52) (B6 zA (F6 one_v54) N6)))) rfl)):A:=h k
theorem zq1 {A B:Prop}(k:B)(h:B→A:=by exact s2 (AZ5 rfl rfl rfl (fun ext=>Q7 (places:=#[(0,1),(1,1),(2,1),(3,1),(4,1),(5,1),(6,1),(7,1),(8,1)]) rfl J1 zeroValue32 (fun w=>by kernel_rfl) rfl (B6 zA (F6 one_v73) (B6 zA (S8 _ _) (B6 zA (F6 one_v77) (B6 zA (F6 one_v79) N6)))) rfl)) (by exact s2 t2 t1)):A:=h k
theorem zq2 {A B:Prop}(k:B)(h:B→A:=by exact F7 rfl rfl rfl (S4 rfl zeroValue32 rfl) (fun a _=>qz3)):A:=h k
theorem zq3 {p:Prop}(h:p:=by exact D1 rfl (A5 rfl B7)):p:=h
theorem zq4 {p:Prop}(h:p:=by exact⟨E4 _,rfl⟩):p:=h
theorem zq5 {A B:Prop}(k:B)(h:B→A:=by exact F7 rfl rfl rfl (J2 3 (fun _=>rfl) (L8 (by':=24) rfl K1 type105 rfl rfl rfl rfl rfl rfl zA zA qz1 qz1)) (fun a _=>qz3)):A:=h k
theorem zq6 {A B:Prop}(k:B)(h:B→A:=by exact F7 rfl rfl rfl (J2 3 (fun _=>rfl) (L8 (by':=8) rfl J0 type102 rfl rfl rfl rfl rfl rfl zA zA qz1 qz1)) (fun a _=>qz3)):A:=h k
theorem zq7 {A B:Prop}(k:B)(h:B→A:=by exact F7 rfl rfl rfl (J2 3 (fun _=>rfl) (L8 (by':=8) rfl D3 type3 rfl rfl rfl rfl rfl rfl zA zA qz1 qz1)) (fun a _=>qz3)):A:=h k
theorem zq8 {A B:Prop}(k:B)(h:B→A:=by exact F7 rfl rfl rfl (S9 [] rfl Tryz.call12 rfl (Ao2 cu x16.2 x18.2 ⟨hco,⟨by omega,fun p hp=>(ok16.2.2 p hp).1⟩,⟨ok18.2.1,ok18.2.2⟩⟩ fun p hp=>(ok16.2.2 p hp).2) AD5 rfl) (fun a _=>qz3)):A:=h k
theorem zq9 {A B:Prop}(k:B)(h:B→A:=by exact N8 rfl rfl rfl (fun ext=>Q7 (places:=#[(0,1),(1,1),(2,1),(3,1),(4,1),(5,1),(6,1),(7,1),(8,1)]) rfl J1 zeroValue32 (fun w=>by kernel_rfl) rfl (B6 zA (X2 _ _) (B6 zA (X2 _ _) (B6 zA (F6 one_v17_1) (B6 zA (S8 _ _) (B6 zA (F6 one_x23) N6))))) rfl)):A:=h k
theorem zq10 {A B:Prop}(k:B)(h:B→A:=by exact s2 t2 (by exact A1 rfl (G7 rfl L2))):A:=h k
theorem zq11 {A B:Prop}(k:B)(h:B→A:=by exact s2 t1 (by exact s2 (H3 qz9) (by exact s2 (X5 58 3) (by exact s2 (fun zvz=>zL [1,1,1,1,1,1,1,0,0] zvz) (by exact AWP.le (U1 7 (t:=nin B5.ow (P9.take (j+1)) (T++[(E6,v120)])) ((Ax0 (b:=[Go.AV.Own.arr (E6) 58 3 [],Go.AV.Own.arr v120 3 1 ((List.replicate N (0:Int)).map fun n=>[AV.int n])]++nin B5.ow (P9.take j) T) qz87 (AV8 (ow:=B5.ow) (x:=(E6,v120)) ht hinv.2))))))))):A:=h k
theorem zq12 {A B:Prop}(k:B)(h:B→A:=by exact AWP.le (U1 7 (t:=([Go.AV.Own.arr y.1 58 3 (tx.Got.map H7.cs),Go.AV.Own.arr y.2 3 1 (tx.Terms.map fun n=>[AV.int n])])++(nin B5.ow (w.Txns.eraseIdx (t-1).toNat) (T.eraseIdx (t-1).toNat)++nin C5.ow w.Looks L)) (AZ7 htx hy))):A:=h k
theorem zq13 {A B:Prop}(k:B)(h:B→A:=by exact A1 rfl (G7 rfl (O9 (l:=[]) rfl))):A:=h k
theorem zq14 {A B:Prop}(k:B)(h:B→A:=by exact s2 (N8 rfl rfl rfl (fun ext=>Q7 (places:=#[(0,1),(1,1),(2,1),(3,1),(4,1),(5,1),(6,1),(7,1),(8,1),(9,1)]) rfl M5 zeroValue94 (fun w=>by kernel_rfl) rfl (B6 zA (S8 _ _) (B6 zA (F6 one_v120) (B6 L1 (X2 _ _) (B6 L1 (X2 _ _) N6)))) rfl)) (by exact s2 t2 (by exact F7 rfl rfl rfl (N3 (by':=112) 6 rfl M4 type94 rfl rfl rfl rfl rfl rfl zA zA rfl BK6) (fun a _=>qz3)))):A:=h k
theorem zq15 {A B:Prop}(k:B)(h:B→A:=by exact s2 (P1 [] [(0,false),(1,false),(2,false),(3,false),(4,false),(5,false),(6,false),(10,false),(11,false),(7,true),(8,false),(9,false),(12,true),(13,false)] E3 E3 rfl BC9) (by exact s2 (N0 rfl rfl rfl (fun ext=>AL3 rfl E2 I6 Tryz.zeroValue9 rfl rfl rfl rfl (B6 (O9 (l:=[109]) rfl) (j4 _) N6) rfl rfl)) (by exact s2 (N0 rfl rfl rfl (fun ext=>AL3 rfl E2 I6 Tryz.zeroValue9 rfl rfl rfl rfl (B6 (O9 (l:=[99]) rfl) (j4 _) N6) rfl rfl)) (by exact s2 t1 (by exact N0 rfl rfl rfl (fun ext=>AL3 rfl E2 I6 Tryz.zeroValue9 rfl rfl rfl rfl (B6 (O9 (l:=[98]) rfl) (j4 _) (B6 (O9 (l:=[110]) rfl) (j4 _) N6)) rfl rfl)))))):A:=h k
theorem zq16 {p:Prop}(h:p:=by exact D1 rfl (A5 rfl W5)):p:=h
theorem zq17 {A B:Prop}(k:B)(h:B→A:=by exact F7 rfl rfl rfl (J2 4 (fun _=>rfl) (L8 (by':=24) rfl K1 type105 rfl rfl rfl rfl rfl rfl zA zA qz1 qz1)) (fun a _=>qz3)):A:=h k
theorem zq18 {A B:Prop}(k:B)(h:B→A:=by exact F7 rfl rfl rfl (J2 4 (fun _=>rfl) (L8 (by':=8) rfl J0 type102 rfl rfl rfl rfl rfl rfl zA zA qz1 qz1)) (fun a _=>qz3)):A:=h k
theorem zq19 {A B:Prop}(k:B)(h:B→A:=by exact F7 rfl rfl rfl (J2 4 (fun _=>rfl) (L8 (by':=8) rfl D3 type3 rfl rfl rfl rfl rfl rfl zA zA qz1 qz1)) (fun a _=>qz3)):A:=h k
theorem zq20 {A B:Prop}(k:B)(h:B→A:=by exact s2 (P1 _ [(0,false),(1,false),(2,false),(3,false),(4,false),(5,false),(6,false),(7,false),(8,false),(9,false),(10,false),(11,false),(12,false),(13,false),(14,false),(15,false),(16,false),(17,false),(18,false),(19,false),(20,false),(21,false),(22,true)] E3 E3 rfl (U8 2)) (by exact s2 (s2 t8 (s2 t4 t2)) (by exact s2 (N0 rfl rfl rfl (fun ext=>I4 1 rfl M4 U3 zA rfl zA qz7 Ax4)) (by exact s2 (N0 rfl rfl rfl (fun ext=>O1 1 rfl M5 rfl Y5 zA rfl rfl qz2)) (by exact N0 rfl rfl rfl (fun ext=>Q6 1 rfl zA rfl AM5 qz2 rfl)))))):A:=h k
theorem zq21 {p:Prop}(h:p:=by refine A1 rfl (Al9 rfl zA (O9 (l:=[]) rfl)) ?_;refine R3 ?_;refine L5 rfl (fun hc=>zG rfl call87 (T7 _ _ _) (A2 (A7 rfl hc) AT1)) ?_;refine R4 ?_;exact D1 rfl (A5 rfl BQ9)):p:=h
theorem zq22 {A B:Prop}(k:B)(h:B→A:=by exact F7 rfl rfl rfl (N3 (by':=40) 2 rfl E7 type214 rfl rfl rfl rfl rfl rfl zA zA rfl BY2) (fun a _=>qz3)):A:=h k
theorem zq23 {A B:Prop}(k:B)(h:B→A:=by exact s2 (A1 rfl (j7 6 rfl zA rfl qz0 rfl)) (by exact A1 rfl (O1 6 rfl T1 rfl E9 zA rfl rfl qz0))):A:=h k
theorem zq24 {A B:Prop}(k:B)(h:B→A:=by exact F7 rfl rfl rfl (J2 2 (fun _=>rfl) (L8 (by':=24) rfl K1 type105 rfl rfl rfl rfl rfl rfl zA zA qz1 qz1)) (fun a _=>qz3)):A:=h k
theorem zq25 {A B:Prop}(k:B)(h:B→A:=by exact F7 rfl rfl rfl (J2 2 (fun _=>rfl) (L8 (by':=8) rfl J0 type102 rfl rfl rfl rfl rfl rfl zA zA qz1 qz1)) (fun a _=>qz3)):A:=h k
theorem zq26 {A B:Prop}(k:B)(h:B→A:=by exact s2 (B3 rfl rfl (zG rfl call228 (BA1 _ qz7) (A2 (A0 rfl) A9))) (by exact s2 t1 (by exact s2 (B3 rfl rfl (zG rfl call226 (AQ8 buf ⟨x.Key,AA9 _,false⟩ qz7 hinv.2.2.1) F3)) (by exact s2 t4 t2)))):A:=h k
theorem zq27 {A B:Prop}(k:B)(h:B→A:=by exact s2 (s2 t4 t1) (by exact s2 (A1 rfl (C2 rfl H1 O0 zA zA hx qz1)) (by exact t2))):A:=h k
theorem zq28 {p:Prop}(h:p:=by refine R7 ?_;refine i7 70 3 ?_;exact I9 [0] (E6) (trivial) rfl B7 (j6 rfl E5 (G0 (F5 (ys:=_) 1 rfl rfl K6 C6 rfl) V6))):p:=h
theorem zq29 {A B:Prop}(k:B)(h:B→A:=by exact F7 rfl rfl rfl (J2 2 (fun _=>rfl) (L8 (by':=8) rfl D3 type3 rfl rfl rfl rfl rfl rfl zA zA qz1 qz1)) (fun a _=>qz3)):A:=h k
theorem zq30 {A B:Prop}(k:B)(h:B→A:=by exact s2 t4 (by exact M2 [1,1,1,1,1,1,1] 1 7 (nwZ w T L) (fun zz=>nwZ zz.1 T L) rfl rfl rfl rfl call336 rfl rfl (Bi9 b w X T L a hw ha) F3 (fun a=>O4))):A:=h k
theorem zq31 {A B:Prop}(k:B)(h:B→A:=by exact zI [3,0] rfl Tryz.call344 (Ap5 _ _ s.Told ⟨r.Txn,r.Yes,r.Time⟩ (BB9 s.Told r.Txn) htle qz7) (A2 (A0 rfl) (A2 (A0 rfl) (A2 (A0 rfl) A9))) rfl):A:=h k
theorem zq32 {p:Prop}(h:p:=by exact Y1 rfl E5 (G0 (A5 rfl Ac8) (G0 (A5 rfl Ac8) u9))):p:=h
theorem zq33 {A B:Prop}(k:B)(h:B→A:=by exact s2 (N0 rfl rfl rfl (fun ext=>I4 1 rfl E7 K0 zA rfl zA qz7 Bu5)) (by exact s2 (N0 rfl rfl rfl (fun ext=>O1 1 rfl X8 rfl z6 zA rfl rfl (AC5 hA))) (by exact N0 rfl rfl rfl (fun ext=>Q6 1 rfl zA rfl isAgg212 (AC5 hA) rfl)))):A:=h k
theorem zq34 {A B:Prop}(k:B)(h:B→A:=by exact s2 (B3 rfl rfl (j7 6 rfl zA rfl qz0 rfl)) (by exact s2 (B3 rfl rfl (O1 6 rfl T1 rfl E9 zA rfl rfl qz0)) (by exact B3 rfl rfl (Q6 6 rfl zA rfl O3 qz0 rfl)))):A:=h k
theorem zq35 {A B:Prop}(k:B)(h:B→A:=by exact s2 (Q0 0 4 3 rfl rfl M6) (by exact s2 (Q0 0 5 1 rfl rfl M6) (by exact s2 (Q0 0 6 1 rfl rfl M6) (by exact s2 (Q0 0 7 10 rfl rfl M6) (by exact Q0 0 8 6 rfl rfl M6))))):A:=h k
theorem zq36 {A B:Prop}(k:B)(h:B→A:=by exact s2 (AWP.le (U1 7 (t:=([Go.AV.Own.arr y.1 58 3 (tx.Got.map H7.cs),Go.AV.Own.arr y.2 3 1 (tx.Terms.map fun n=>[AV.int n])])++(nin B5.ow (x38.1.Txns.eraseIdx (t-1).toNat) (T.eraseIdx (t-1).toNat)++nin C5.ow x38.1.Looks L)) (AZ7 htx hy))) (by exact s2 t8 (by exact s2 (A1 rfl (I4 5 rfl M4 U3 zA rfl zA qz7 Ax4)) (by exact s2 (A1 rfl (O1 5 rfl M5 rfl Y5 zA rfl rfl qz2)) (by exact A1 rfl (Q6 5 rfl zA rfl AM5 qz2 rfl)))))):A:=h k
theorem zq37 {A B:Prop}(k:B)(h:B→A:=by exact s2 (s2 t2 t1) (by exact zI [1] rfl call143 (AM7 _ _ hcode _ ([(1),(2),(5),(-3),(0),(100)]:List Int) E5 qz7) (A2 (A0 rfl) (A2 (A0 rfl) A9)) rfl)):A:=h k
theorem zq38 {A B:Prop}(k:B)(h:B→A:=by exact s2 (Z9 _ 21 (.pure 0 (.pure 1 (.pure 2 (.pure 3 (.pure 4 (.pure 5 (.pure 6 (.pure 7 (.pure 8 (.pure 9 (.pure 10 (.pure 11 (.pure 12 (.pure 13 (.pure 14 (.pure 15 (.pure 16 (.pure 17 (.pure 18 (.pure 19 (.e1 20 .nil))))))))))))))))))))) E3 E3 rfl (U8 8)) (by exact s2 (s2 t4 t2) (by exact s2 (N8 rfl rfl rfl (fun ext=>I4 3 rfl F8 C6 zA rfl zA qz7 AE8)) (by exact s2 (N8 rfl rfl rfl (fun ext=>O1 3 rfl Y7 rfl AR1 zA rfl rfl qz5)) (by exact N8 rfl rfl rfl (fun ext=>Q6 3 rfl zA rfl isAgg36 qz5 rfl)))))):A:=h k
theorem zq39 {A B:Prop}(k:B)(h:B→A:=by exact s2 (B3 rfl rfl (n2 rfl call73 rfl (Ad8 (AU5 (P8 (O6 w) ((k:Int)+1))) (fun _=>True) (fun x=>x.Time==t.Time) (fun _ _=>trivial)) (T9 _) (N7 (evb zA) (N7 (AC7 (AV7 4 zA rfl) (AL4 call77 (fun x h=>Bm2 x t))) o8)))) (by exact s2 (s2 t8 (s2 t4 (s2 t2 t1))) (by exact s2 (M1 rfl (Q3 rfl rfl rfl) (fun hc=>zG rfl call20 (BH8 w (O6 w) t.Got (t.Time-1) hss hl qz7) zS)) (by exact s2 t2 (by exact M1 rfl (Q3 rfl rfl rfl) (fun hc=>zG rfl call19 (At5 (r6 w.Cuts (O6 w) t.Got (t.Time-1)) t.Got) zS)))))):A:=h k
theorem zq40 {p:Prop}(h:p:=by refine R5 ?_;exact zq3):p:=h
theorem zq41 {A B:Prop}(k:B)(h:B→A:=by exact s2 (AWP.le (AI8 [1] 6 rfl rfl (K2 (C3 (i:=0) rfl) G3) M6)) (by exact s2 (P1 [] [(0,false),(1,false),(2,false),(3,false),(4,false),(5,false),(6,false),(10,false),(11,false),(7,true),(8,false),(9,false),(12,true),(13,false)] E3 E3 rfl BC9) (by exact s2 (N0 rfl rfl rfl (fun ext=>AL3 rfl E2 I6 Tryz.zeroValue9 rfl rfl rfl rfl (B6 (O9 (l:=[109]) rfl) (j4 _) N6) rfl rfl)) (by exact s2 (N0 rfl rfl rfl (fun ext=>AL3 rfl E2 I6 Tryz.zeroValue9 rfl rfl rfl rfl (B6 (O9 (l:=[99]) rfl) (j4 _) N6) rfl rfl)) (by exact s2 t1 (by exact s2 (N0 rfl rfl rfl (fun ext=>AL3 rfl E2 I6 Tryz.zeroValue9 rfl rfl rfl rfl (B6 (O9 (l:=[98]) rfl) (j4 _) (B6 (O9 (l:=[110]) rfl) (j4 _) N6)) rfl rfl)) (by exact s2 (N0 rfl rfl rfl (fun ext=>AL3 rfl E2 I6 Tryz.zeroValue9 rfl rfl rfl rfl (B6 (O9 (l:=[97]) rfl) (j4 _) (B6 (O9 (l:=[98]) rfl) (j4 _) (B6 (O9 (l:=[99]) rfl) (j4 _) N6))) rfl rfl)) (by exact s2 t4 (by exact U2 rfl rfl rfl (S9 [0] rfl Tryz.call32 rfl (V4 _ _ hcode _ _ qz7 qz7) (A2 (A0 rfl) (A2 L1 A9)) rfl) (fun a _=>qz3)))))))))):A:=h k
theorem zq42 {A B:Prop}(k:B)(h:B→A:=by exact F7 rfl rfl rfl (S4 rfl Tryz.zeroValue32 rfl) (fun a _=>qz3)):A:=h k
theorem zq43 {A B:Prop}(k:B)(h:B→A:=by exact s2 (s2 t2 t1) (by exact M2 [0,0,0,0,0,0,0] 0 7 (nin B5.ow W'.Txns T++nin C5.ow W'.Looks L) (fun zz=>nin B5.ow W'.Txns T++nin C5.ow W'.Looks L) rfl rfl rfl rfl call368 rfl rfl (hfr) F3 (fun a=>O4))):A:=h k
theorem zq44 {A B:Prop}(k:B)(h:B→A:=by exact zI [0] rfl call32 (V4 _ _ hcode _ _ Aj9 qz7) (A2 (A0 rfl) (A2 (A0 rfl) A9)) rfl):A:=h k
theorem zq45 {A B:Prop}(k:B)(h:B→A:=by exact s2 (s2 t4 (s2 t2 t1)) (by exact s2 (H3 Ab1) (by exact s2 (s2 t8 (s2 t2 t1)) (by exact Ap0 rfl rfl rfl rfl K7 Q2 Tryz.zeroValue118 rfl rfl rfl rfl (B6 zA (e6 _) N6) rfl rfl)))):A:=h k
theorem zq46 {p:Prop}(h:p:=by refine R19 ?_;refine L5 rfl (fun hc=>Al9 rfl (A7 rfl hc) (O9 (l:=[]) rfl)) ?_;refine R9 ?_;exact D1 rfl (A5 rfl BQ9)):p:=h
theorem zq47 {A B:Prop}(k:B)(h:B→A:=by exact s2 (Y4 rfl rfl rfl (fun ext=>Q7 (places:=#[(0,1),(1,1),(2,1),(3,1),(4,1),(5,1),(6,1),(7,1),(8,1)]) rfl J1 zeroValue32 (fun w=>by kernel_rfl) rfl (B6 zA (F6 one_v48) (B6 zA (S8 _ _) (B6 zA (F6 one_v52) (B6 zA (F6 one_v54) N6)))) rfl)) (by exact s2 AA6 (by exact t2))):A:=h k
theorem zq48 {A B:Prop}(k:B)(h:B→A:=by exact s2 (M1 rfl (Q3 rfl rfl rfl) (fun hc=>C2 rfl K7 Q2 (A7 rfl hc) L1 (htd BF7) qz6)) (by exact s2 (s2 t4 t2) (by exact s2 (M1 rfl (Q3 rfl rfl rfl) (fun hc=>w_aeql rfl AN7 E3 E3 (A7 rfl hc) (A7 rfl hc) (j5 E3 O3 rfl rfl (AY3 W8) (j5 E3 AF5 rfl rfl (Am1 U4) (j5 E3 O3 rfl rfl (AY3 W8) Aj0))))) (by exact s2 (s2 t16 t1) (by exact M1 rfl (Q3 rfl rfl rfl) (fun hc=>zG rfl call25 (BT1 w.Cuts ss t.Got (t.Time-1) hss hl hcut) zS)))))):A:=h k
theorem zq49 {p:Prop}(h:p:=by refine R7 ?_;refine Q0 0 1 2 rfl rfl M6 ?_;refine i7 144 5 ?_;refine i7 118 3 ?_;exact I9 [1,0] ((E6),(E6)) (trivial) rfl B7 (j6 rfl E5 (G0 (F5 (ys:=_) 2 rfl rfl S5 K8 rfl) V6))):p:=h
theorem zq50 {p:Prop}(h:p:=by refine R3 ?_;exact H8 [0,0,0,0,0,0,0] 1 (nwZ x54.1 T L) (((x54.1,x54.2),T,L)) (qz8) rfl B7 (O2 rfl (A5 rfl B7))):p:=h
theorem zq51 {A B:Prop}(k:B)(h:B→A:=by exact N8 rfl rfl rfl (fun ext=>zG rfl call48 (AH0 _ qz7) (A2 (A0 rfl) A9))):A:=h k
theorem zq52 {A B:Prop}(k:B)(h:B→A:=by exact s2 (B3 rfl rfl (I4 1 rfl F8 C6 zA rfl zA qz7 AF7)) (by exact s2 t1 (by exact e8 1 rfl rfl rfl zA zA (e6 _) rfl C6 rfl AF7))):A:=h k
theorem zq53 {A B:Prop}(k:B)(h:B→A:=by exact s2 t4 (by exact M2 [1,1,1,1,1,1,1] 1 7 (nwZ w T L) (fun zz=>nwZ zz.1.1 zz.2 L) rfl rfl rfl rfl call337 rfl rfl (CV2 b w X T L a hw hq.txns hT ha) F3 (fun a=>O4))):A:=h k
theorem zq54 {A B:Prop}(k:B)(h:B→A:=by exact AWP.le (U1 7 (t:=([Go.AV.Own.arr z 58 3 (lk.Got.map H7.cs)])++(nin C5.ow (w.Looks.eraseIdx n.toNat) (L.eraseIdx n.toNat)++nin B5.ow w.Txns T)) (Bs4 hlk hz))):A:=h k
theorem zq55 {A B:Prop}(k:B)(h:B→A:=by exact A1 rfl (G7 rfl (j0 (sz:=3)))):A:=h k
theorem zq56 {A B:Prop}(k:B)(h:B→A:=by exact s2 (J3 5 E3 E3 rfl) (by exact s2 (s2 t2 t1) (by exact s2 (B3 rfl rfl (zG rfl call327 (BS6 _ X9) (A2 (A0 rfl) A9))) (by exact s2 t2 (by exact I0 (by':=72) 2 rfl rfl rfl rfl H1 type144 rfl rfl rfl rfl rfl rfl zA zA rfl Be7))))):A:=h k
theorem zq57 {A B:Prop}(k:B)(h:B→A:=by exact s2 t1 (by exact s2 (Z9 _ 17 (.pure 0 (.pure 1 (.pure 2 (.pure 3 (.pure 4 (.pure 5 (.pure 6 (.pure 7 (.pure 8 (.pure 9 (.pure 10 (.pure 11 (.pure 12 (.pure 13 (.pure 14 (.e1 15 (.e1 16 .nil))))))))))))))))) E3 E3 rfl (U8 9)) (by exact s2 (s2 t4 t2) (by exact s2 (N8 rfl rfl rfl (fun ext=>I4 4 rfl F8 C6 zA rfl zA qz7 AE8)) (by exact N8 rfl rfl rfl (fun ext=>r5 4 rfl zA rfl K6 C6 qz5 E5)))))):A:=h k
theorem zq58 {A B:Prop}(k:B)(h:B→A:=by exact s2 (P1 _ [(0,false),(1,false),(2,false),(3,false),(4,false),(5,false),(6,false),(7,false),(8,false),(9,false),(10,false),(11,false),(12,false),(13,false),(14,true)] E3 E3 rfl (U8 2)) (by exact s2 t4 (by exact s2 (N0 rfl rfl rfl (fun ext=>I4 1 rfl E7 K0 zA rfl zA qz7 Bu5)) (by exact s2 (N0 rfl rfl rfl (fun ext=>O1 1 rfl X8 rfl z6 zA rfl rfl (AC5 hA))) (by exact s2 (N0 rfl rfl rfl (fun ext=>Q6 1 rfl zA rfl isAgg212 (AC5 hA) rfl)) (by exact s2 (s2 t4 (s2 t2 t1)) (by exact U2 rfl rfl rfl (N3 (by':=32) 2 rfl X7 type209 rfl rfl rfl rfl rfl rfl zA zA rfl qz1) (fun a _=>qz3)))))))):A:=h k
theorem zq59 {A B:Prop}(k:B)(h:B→A:=by exact N8 rfl rfl rfl (fun ext=>Q7 (places:=#[(0,1),(1,1)]) rfl X8 zeroValue214 (fun w=>by kernel_rfl) rfl (B6 zA (j4 _) (B6 zA (F6 one_v91) N6)) rfl)):A:=h k
theorem zq60 {p:Prop}(h:p:=by refine R5 ?_;exact D1 rfl (A5 rfl BC3)):p:=h
theorem zq61 {A B:Prop}(k:B)(h:B→A:=by exact zI [1] rfl call32 (V4 _ _ hcode _ _ qz7 qz7) (A2 (A0 rfl) (A2 L1 A9)) rfl):A:=h k
theorem zq62 {A B:Prop}(k:B)(h:B→A:=by exact s2 (s2 t4 t1) (by exact s2 (A1 rfl (C2 rfl G5 M8 zA zA hx qz1)) (by exact t2))):A:=h k
theorem zq63 {p:Prop}(h:p:=by refine R3 ?_;exact H8 [0,0,0,0,0,0,0] 1 (nwZ x91.1.1 x91.2 L) (((x91.1.1,x91.1.2),x91.2,L)) (qz8) rfl B7 (O2 rfl (A5 rfl B7))):p:=h
theorem zq64 {A B:Prop}(k:B)(h:B→A:=by exact s2 (s2 t4 t2) (by exact s2 (N8 rfl rfl rfl (fun ext=>I4 3 rfl F8 C6 zA rfl zA qz7 AE8)) (by exact s2 (N8 rfl rfl rfl (fun ext=>O1 3 rfl Y7 rfl E9 zA rfl rfl qz5)) (by exact s2 (N8 rfl rfl rfl (fun ext=>Q6 3 rfl zA rfl O3 qz5 rfl)) (by exact N8 rfl rfl rfl (fun ext=>C2 rfl D4 F9 zA zA (Z3 hin) qz7)))))):A:=h k
theorem zq65 {A B:Prop}(k:B)(h:B→A:=by exact s2 (M1 rfl (Q3 rfl rfl rfl) (fun hc=>I4 2 rfl E7 K0 (A7 rfl hc) rfl (A7 rfl hc) qz6 qz6)) (by exact s2 (M1 rfl (Q3 rfl rfl rfl) (fun hc=>O1 2 rfl X8 rfl I6 (A7 rfl hc) rfl rfl (hrow0 qz6))) (by exact M1 rfl (Q3 rfl rfl rfl) (fun hc=>Q6 2 rfl (A7 rfl hc) rfl u3 (hrow0 qz6) rfl)))):A:=h k
theorem zq66 {A B:Prop}(k:B)(h:B→A:=by exact s2 (N2 0 rfl rfl rfl zA zA (F6 one_v38_4) rfl sizeOf26 rfl) (by exact s2 t1 (by exact s2 (H3 qz9) (by exact s2 (fun zvz=>zL [0,3] zvz) (by exact P1 _ [(0,false),(1,false),(3,false),(4,false),(5,false),(6,false),(7,false),(2,true),(8,true),(9,false),(10,true)] E3 E3 rfl (U8 2)))))):A:=h k
theorem zq67 {A B:Prop}(k:B)(h:B→A:=by exact P1 _ [(1,false),(2,false),(3,false),(5,false),(6,false),(8,false),(0,true),(4,true),(7,true),(9,true)] E3 E3 rfl AZ1):A:=h k
theorem zq68 {A B:Prop}(k:B)(h:B→A:=by exact N8 rfl rfl rfl (fun ext=>Q7 (places:=#[(0,1),(1,1),(2,1),(3,1),(4,1),(5,1),(6,1),(7,1),(8,1)]) rfl J1 zeroValue32 (fun w=>by kernel_rfl) rfl (B6 zA (X2 _ _) (B6 zA (X2 _ _) (B6 zA (F6 one_v17_3) (B6 zA (S8 _ _) (B6 zA (F6 one_x23) N6))))) rfl)):A:=h k
theorem zq69 {A B:Prop}(k:B)(h:B→A:=by exact N8 rfl rfl rfl (fun ext=>Q7 (places:=#[(0,1),(1,1),(2,1),(3,1),(4,1),(5,1),(6,1),(7,1),(8,1)]) rfl J1 zeroValue32 (fun w=>by kernel_rfl) rfl (B6 zA (X2 _ _) (B6 zA (X2 _ _) (B6 zA (F6 one_v17_2) (B6 zA (S8 _ _) (B6 zA (F6 one_x23) N6))))) rfl)):A:=h k
theorem zq70 {A B:Prop}(k:B)(h:B→A:=by exact A1 rfl (G7 rfl (j0 (sz:=1)))):A:=h k
theorem zq71 {A B:Prop}(k:B)(h:B→A:=by exact s2 (A1 rfl (C2 rfl E7 K0 zA zA hx qz1)) (by exact t2)):A:=h k
theorem zq72 {A B:Prop}(k:B)(h:B→A:=by exact s2 (s2 t4 t1) (by exact A1 rfl (C2 rfl E2 I6 zA zA hx qz1))):A:=h k
theorem zq73 {A B:Prop}(k:B)(h:B→A:=by exact s2 (A1 rfl (I4 0 rfl F8 C6 zA rfl zA qz7 AF7)) (by exact A1 rfl (r5 0 rfl zA rfl K6 C6 qz32 E5))):A:=h k
theorem zq74 {A B:Prop}(k:B)(h:B→A:=by exact s2 (A1 rfl (j7 5 rfl zA rfl qz2 rfl)) (by exact s2 (A1 rfl (O1 5 rfl M5 rfl j3 zA rfl rfl qz2)) (by exact A1 rfl (Q6 5 rfl zA rfl AF5 qz2 rfl)))):A:=h k
theorem zq75 {p:Prop}(h:p:=by exact⟨by omega,by rw[hinv.2,Au9 hx hg.1,Am8 hx hy hg.2]⟩):p:=h
theorem zq76 {p:Prop}(h:p:=by exact Y1 rfl E5 (G0 (A5 rfl BK7) (G0 (A5 rfl BK7) u9))):p:=h
theorem zq77 {A B:Prop}(k:B)(h:B→A:=by exact L5 rfl (fun hc=>BR2 rfl U4 (A7 rfl hc) (A7 rfl hc))):A:=h k
theorem zq78 {A B:Prop}(k:B)(h:B→A:=by exact s2 (A1 rfl (j7 6 rfl zA rfl qz0 rfl)) (by exact A1 rfl (O1 6 rfl T1 rfl Y5 zA rfl rfl qz0))):A:=h k
theorem zq79 {A B:Prop}(k:B)(h:B→A:=by exact s2 (H3 Ab1) (by exact s2 t4 (by exact s2 (A1 rfl (n2 rfl Tryz.call146 rfl (An8 _ _ _ s.Told r.Txn hs3) (Ab3 (I8 (n7 _ _) (I8 (T9 _) W9))) (N7 (Ai1 zA (AO7 (D7 H9 (D7 H9 (D7 (K2 (C3 (i:=1) rfl) G3) (D7 (K2 (C3 (i:=2) rfl) G3) Z6)))))) Ax6))) (by exact s2 (s2 t4 (s2 t2 t1)) (by exact s2 (H3 Ab1) (by exact s2 (s2 t8 (s2 t2 t1)) (by exact Ap0 rfl rfl rfl rfl K7 Q2 Tryz.zeroValue118 rfl rfl rfl rfl (B6 zA (e6 _) N6) rfl rfl))))))):A:=h k
theorem zq80 {A B:Prop}(k:B)(h:B→A:=by exact s2 (M1 rfl (Y6 rfl rfl rfl) (fun hc=>j7 6 rfl (A7 rfl hc) rfl qz0 rfl)) (by exact s2 (M1 rfl (Y6 rfl rfl rfl) (fun hc=>O1 6 rfl T1 rfl E9 (A7 rfl hc) rfl rfl qz0)) (by exact M1 rfl (Y6 rfl rfl rfl) (fun hc=>Q6 6 rfl (A7 rfl hc) rfl O3 qz0 rfl)))):A:=h k
theorem zq81 {p:Prop}(h:p:=by refine zF rfl call284 (Cc1 s.Held r.Txn qz7) F3 ?_;refine R14 ?_;refine zF rfl call285 (Br1 s.Told ⟨r.Txn,r.Yes,r.Time⟩ hgt qz7) F3 ?_;refine R10 ?_;exact Y1 rfl E5 (G0 (F5 (ys:=_) 3 rfl rfl S5 K8 rfl) V6)):p:=h
theorem zq82 {A B:Prop}(k:B)(h:B→A:=by exact s2 (N2 1 rfl rfl rfl zA zA (F6 one_x69) rfl AM9 rfl) (by exact s2 t2 (by exact s2 (H3 Ab1) (by exact s2 t4 (by exact A1 rfl (n2 rfl Tryz.call146 rfl (An8 _ _ _ s.Told r.Txn hs3) (Ab3 (I8 (n7 _ _) (I8 (T9 _) W9))) (N7 (Ai1 zA (AO7 (D7 H9 (D7 H9 (D7 (K2 (C3 (i:=0) rfl) G3) (D7 (K2 (C3 (i:=2) rfl) G3) Z6)))))) Ax6))))))):A:=h k
theorem zq83 {A B:Prop}(k:B)(h:B→A:=by exact s2 (A1 rfl (j7 5 rfl zA rfl qz2 rfl)) (by exact A1 rfl (O1 5 rfl M5 rfl E9 zA rfl rfl qz2))):A:=h k
theorem zq84 {A B:Prop}(k:B)(h:B→A:=by exact s2 (s2 t4 (s2 t2 t1)) (by exact s2 (A1 rfl (C2 rfl D3 E9 zA L1 hp0 qz1)) (by exact s2 t1 (by exact M2 [0,0,0,0,0,0,0] 0 7 (nwZ w T L) (fun zz=>nwZ zz.1 T L) rfl rfl rfl rfl call405 rfl rfl (Cx5 b w X T L t p0 g0 hw hq hT ht hpr.1 hx0) AD5 (fun a=>O4))))):A:=h k
theorem zq85 {A B:Prop}(k:B)(h:B→A:=by exact I0 (by':=40) 0 rfl rfl rfl rfl N1 type58 rfl rfl rfl rfl rfl rfl zA zA rfl qz1):A:=h k
theorem zq86 {p:Prop}(h:p:=by refine zL [0,0,0,0,0,0,0,0,0] ?_;refine AWP.le (U1 7 (t:=nwZ x38.1 T L) ((AZ7 htx hy).symm)) ?_;refine R5 ?_;exact H8 [0,0,0,0,0,0,0] 0 (nwZ x38.1 T L) (((x38.1,false),T)) (CB2) rfl CA9 Q4):p:=h
theorem zq87 {A B:Prop}(k:B)(h:B→A:=by exact I0 (by':=1) 3 rfl rfl rfl rfl AE7 type4 rfl rfl rfl rfl rfl rfl zA zA rfl qz1):A:=h k
theorem zq88 {A B:Prop}(k:B)(h:B→A:=by exact A1 rfl (G7 rfl L2)):A:=h k
theorem zq89 {A B:Prop}(k:B)(h:B→A:=by exact s2 (s2 t4 t2) (by exact L5 rfl (fun hc=>zG rfl call87 (T7 _ _ _) zS))):A:=h k
theorem zq90 {A B:Prop}(k:B)(h:B→A:=by exact F7 rfl rfl rfl (S9 [] rfl Tryz.call205 rfl (Bt1 x7.2 x12.2 ok7.2.1 ok7.2.2 ok12.2.2 qz7) F3 rfl) (fun a _=>qz3)):A:=h k
theorem zq91 {A B:Prop}(k:B)(h:B→A:=by exact s2 (A1 rfl (C2 rfl N1 W7 zA zA hx qz1)) (by exact t2)):A:=h k
theorem zq92 {A B:Prop}(k:B)(h:B→A:=by exact s2 t1 (by exact F7 rfl rfl rfl (J2 6 (fun _=>rfl) (S9 [] rfl call124 rfl (AU7 w.Promised qz7) G6 rfl)) (fun a _=>qz3))):A:=h k
theorem zq93 {p:Prop}(h:p:=by refine R5 ?_;exact D1 rfl (A5 rfl BK5)):p:=h
theorem zq94 {A B:Prop}(k:B)(h:B→A:=by exact s2 (s2 t4 (s2 t2 t1)) (by exact s2 (Q0 0 2 1 rfl rfl M6) (by exact s2 (Q0 0 3 1 rfl rfl M6) (by exact s2 (Q0 0 4 3 rfl rfl M6) (by exact s2 (Q0 0 5 1 rfl rfl M6) (by exact s2 (Q0 0 6 1 rfl rfl M6) (by exact s2 (Q0 0 7 10 rfl rfl M6) (by exact Q0 0 8 6 rfl rfl M6)))))))):A:=h k
theorem zq95 {A B:Prop}(k:B)(h:B→A:=by exact s2 (P1 _ [(0,false),(1,false),(2,false),(3,true),(4,false)] E3 E3 rfl (U8 2)) (by exact s2 (s2 t2 t1) (by exact U2 rfl rfl rfl (S9 [2] rfl call32 rfl (V4 _ _ hcode _ _ qz7 qz7) (A2 (A0 rfl) (A2 L1 A9)) rfl) (fun a _=>qz3)))):A:=h k
theorem zq96 {A B:Prop}(k:B)(h:B→A:=by exact A1 rfl (C2 rfl L3 Q1 zA zA hx qz1)):A:=h k
theorem zq97 {p:Prop}(h:p:=by exact H8 [1,1,1,1,1,1,1] 1 (nwZ w T L) (((w,false),T,L)) (qz8) rfl B7 (O2 rfl (A5 rfl B7))):p:=h
theorem zq98 {A B:Prop}(k:B)(h:B→A:=by exact F7 rfl rfl rfl (J2 4 (fun _=>rfl) (S9 [] rfl call124 rfl (AU7 w.Promised qz7) G6 rfl)) (fun a _=>qz3)):A:=h k
theorem zq99 {A B:Prop}(k:B)(h:B→A:=by exact U2 rfl rfl rfl (N3 (by':=72) 1 rfl H1 type144 rfl rfl rfl rfl rfl rfl zA zA rfl CQ7) (fun a _=>qz3)):A:=h k
theorem zq100 {A B:Prop}(k:B)(h:B→A:=by exact U2 rfl rfl rfl (N3 (by':=40) 1 rfl G5 type248 rfl rfl rfl rfl rfl rfl zA zA rfl CQ6) (fun a _=>qz3)):A:=h k
theorem zq101 {A B:Prop}(k:B)(h:B→A:=by exact s2 (A1 rfl (C2 rfl F8 C6 zA zA hg qz1)) (by exact t2)):A:=h k
theorem zq102 {A B:Prop}(k:B)(h:B→A:=by exact s2 t1 (by exact F7 rfl rfl rfl (N3 (by':=40) 3 rfl E7 type214 rfl rfl rfl rfl rfl rfl zA zA rfl BY2) (fun a _=>qz3))):A:=h k
theorem zq103 {p:Prop}(h:p:=by refine L5 rfl (fun hc=>zG rfl Tryz.call198 (BH0 _) zS) ?_;refine R7 ?_;refine AF2 rfl rfl (Y9 rfl rfl rfl) (fun hc=>zG rfl Tryz.call230 (Aj5 _) zS) ?_;refine R15 ?_;exact D1 rfl (A5 rfl CB0)):p:=h
theorem zq104 {A B:Prop}(k:B)(h:B→A:=by exact U2 rfl rfl rfl (N3 (by':=24) 1 rfl K7 type118 rfl rfl rfl rfl rfl rfl zA zA rfl CQ7) (fun a _=>qz3)):A:=h k
theorem zq105 {p:Prop}(h:p:=by refine R6 ?_;exact zq3):p:=h
theorem zq106 {A B:Prop}(k:B)(h:B→A:=by exact s2 (H3 qz9) (by exact s2 (X5 58 3) (by exact s2 (fun zvz=>zL [1,1,1,1,1,1,1,1,0] zvz) (by exact s2 (AWP.le (U1 8 (t:=nin B5.ow P9 T++nin C5.ow (Q9.take (m+1)) (L++[E6])) (Bj0 (x:=(E6)) hq9 hinv.2))) (by exact t4))))):A:=h k
theorem zq107 {A B:Prop}(k:B)(h:B→A:=by exact s2 (A1 rfl (I4 1 rfl E7 K0 zA rfl zA qz7 Bu5)) (by exact A1 rfl (O1 1 rfl X8 rfl z6 zA rfl rfl (AC5 hA)))):A:=h k
theorem zq108 {A B:Prop}(k:B)(h:B→A:=by exact N8 rfl rfl rfl (fun ext=>Q7 (places:=#[(0,1),(1,1),(2,1),(3,1)]) rfl AA3 Tryz.zeroValue64 (fun w=>by kernel_rfl) rfl (B6 zA (X2 _ _) (B6 zA (S8 _ _) (B6 zA (F6 one_x13) N6))) rfl)):A:=h k
theorem zq109 {p:Prop}(h:p:=by refine Q0 3 1 2 rfl rfl M6 ?_;refine i7 144 5 ?_;refine i7 118 3 ?_;exact I9 [1,0] ((E6),(E6)) (trivial) rfl B7 (j6 rfl E5 (G0 (F5 (ys:=_) 5 rfl rfl S5 K8 rfl) V6))):p:=h
theorem zq110 {p:Prop}(h:p:=by exact I9 [1] x13 (trivial) rfl CG3 (j6 rfl E5 (G0 (F5 (ys:=_) 2 rfl rfl K6 C6 rfl) V6))):p:=h
theorem zq111 {p:Prop}(h:p:=by exact Y1 rfl E5 AR4):p:=h
theorem zq112 {A B:Prop}(k:B)(h:B→A:=by exact s2 (N0 rfl rfl rfl (fun ext=>AX5 rfl AD2 AA0 zA zA qz7 (S2 (f:=fun l:List Str=>[strs l]) hcu))) (by exact s2 t1 (by exact U2 rfl rfl rfl (S9 [0] rfl Tryz.call33 rfl (AP1 _ _ hcode _ qz7) (A2 (A0 rfl) A9) rfl) (fun a _=>qz3)))):A:=h k
theorem zq113 {p:Prop}(h:p:=by refine N2 1 rfl rfl rfl zA zA (F6 one_x89) rfl AW1 rfl ?_;refine R2 ?_;refine H3 Ab1 ?_;refine R6 ?_;exact I9 [2,0] (x14.1,x89) (trivial) rfl B7 (j6 rfl E5 (G0 (F5 (ys:=_) 3 rfl rfl S5 K8 rfl) V6))):p:=h
theorem zq114 {p:Prop}(h:p:=by refine R4 ?_;exact zq16):p:=h
theorem zq115 {A B:Prop}(k:B)(h:B→A:=by exact M2 [1,1,1,1,1,1,1] 1 7 (nin B5.ow W'.Txns T++nin C5.ow W'.Looks L) (fun zz=>nin B5.ow W'.Txns T++nin C5.ow W'.Looks L) rfl rfl rfl rfl call368 rfl rfl (hfr) F3 (fun a=>O4)):A:=h k
theorem zq116 {A B:Prop}(k:B)(h:B→A:=by exact A1 rfl (C2 rfl D4 F9 zA zA hx qz1)):A:=h k
theorem zq117 {p:Prop}(h:p:=by exact⟨by omega,fun i z hi hz=>if e:k≤i then hinv.2 i z e hz else qz119⟩):p:=h
theorem zq118 {p:Prop}(h:p:=by refine R7 ?_;exact I9 [0] v (trivial) rfl B7 Q4):p:=h
theorem zq119 {A B:Prop}(k:B)(h:B→A:=by exact s2 (fun zvz=>zL [0,0,0,0,0,0,0,0,0] zvz) (by exact AWP.le (U1 7 (t:=nwZ w T L) ((AZ7 htx hy).symm)))):A:=h k
theorem zq120 {A B:Prop}(k:B)(h:B→A:=by exact U2 rfl rfl rfl (Af7 [5] (fun _=>rfl) (fun _=>K2 (C3 (i:=0) rfl) G3) (fun _=>M6) (N3 (by':=96) 5 rfl L3 type179 rfl rfl rfl rfl rfl rfl zA zA rfl qz1)) (fun a _=>qz3)):A:=h k
theorem zq121 {A B:Prop}(k:B)(h:B→A:=by exact F7 rfl rfl rfl (Af7 [7] (fun _=>rfl) (fun _=>K2 (C3 (i:=0) rfl) G3) (fun _=>M6) (N3 (by':=48) 7 rfl U6 type92 rfl rfl rfl rfl rfl rfl zA zA rfl qz1)) (fun a _=>qz3)):A:=h k
theorem zq122 {A B:Prop}(k:B)(h:B→A:=by exact B3 rfl rfl (C2 rfl D4 F9 zA zA hx qz1)):A:=h k
theorem zq123 {p:Prop}(h:p:=by refine N2 2 rfl rfl rfl zA zA (F6 one_x89) rfl AW1 rfl ?_;refine R2 ?_;refine H3 Ab1 ?_;refine R6 ?_;exact I9 [1,0] (x69,x89) (trivial) rfl B7 (j6 rfl E5 (G0 (F5 (ys:=_) 3 rfl rfl S5 K8 rfl) V6))):p:=h
theorem zq124 {A B:Prop}(k:B)(h:B→A:=by exact s2 (B3 rfl rfl (I4 3 rfl F8 C6 zA rfl zA qz7 AF7)) (by exact s2 t1 (by exact e8 3 rfl rfl rfl zA zA (e6 _) rfl C6 rfl AF7))):A:=h k
theorem zq125 {A B:Prop}(k:B)(h:B→A:=by exact s2 (N0 rfl rfl rfl (fun ext=>r5 5 rfl zA rfl isAgg94 U3 qz2 E5)) (by exact U2 rfl rfl rfl (AC6 7 (S9 [7,7] rfl call92 rfl (Ce1 w.Cuts tx y htk.sb) F3 rfl)) (fun a _=>qz3))):A:=h k
theorem zq126 {A B:Prop}(k:B)(h:B→A:=by exact s2 (H3 Ac9) (by exact s2 (fun zvz=>zL [0,4,5] zvz) (by exact s2 (P1 _ [(0,false),(1,false),(2,false),(3,false),(4,false),(5,false),(6,false),(7,false),(8,false),(9,false),(10,false),(11,false),(12,false),(13,false),(14,false),(15,false),(16,false),(17,false),(18,false),(19,false),(20,false),(21,false),(22,true)] E3 E3 rfl (U8 2)) (by exact s2 (s2 t8 (s2 t4 t2)) (by exact s2 (N0 rfl rfl rfl (fun ext=>I4 1 rfl M4 U3 zA rfl zA qz7 Ax4)) (by exact s2 (N0 rfl rfl rfl (fun ext=>O1 1 rfl M5 rfl Y5 zA rfl rfl qz2)) (by exact s2 (N0 rfl rfl rfl (fun ext=>Q6 1 rfl zA rfl AM5 qz2 rfl)) (by exact s2 (s2 t4 t1) (by exact U2 rfl rfl rfl (N3 (by':=40) 2 rfl N1 type58 rfl rfl rfl rfl rfl rfl zA zA rfl qz1) (fun a _=>qz3)))))))))):A:=h k
theorem zq127 {A B:Prop}(k:B)(h:B→A:=by exact s2 t4 (by exact AZ3 rfl rfl rfl (AB5 1 rfl rfl zA zA (e6 _) rfl P4 rfl) (fun a _=>qz3))):A:=h k
theorem zq128 {A B:Prop}(k:B)(h:B→A:=by exact s2 (A1 rfl (j7 6 rfl zA rfl qz2 rfl)) (by exact A1 rfl (O1 6 rfl M5 rfl j3 zA rfl rfl qz2))):A:=h k
theorem zq129 {A B:Prop}(k:B)(h:B→A:=by exact s2 (s2 t4 (s2 t2 t1)) (by exact s2 (A1 rfl (I4 1 rfl D4 F9 zA rfl zA qz7 AF7)) (by exact s2 (A1 rfl (O1 1 rfl q6 rfl j3 zA rfl rfl qz5)) (by exact q9 1 rfl rfl rfl zA Ao8 (Ai9 _) rfl j3 qz5 rfl)))):A:=h k
theorem zq130 {A B:Prop}(k:B)(h:B→A:=by exact s2 (A1 rfl (r5 2 rfl zA rfl K6 C6 qz5 E5)) (by exact zF rfl call370 (AO0 gi hgi.good) G6)):A:=h k
theorem zq131 {A B:Prop}(k:B)(h:B→A:=by exact s2 (J3 5 E3 E3 rfl) (by exact s2 (s2 t2 t1) (by exact s2 (B3 rfl rfl (zG rfl Tryz.call341 (Bl3 _ X9) (A2 (A0 rfl) A9))) (by exact s2 t2 (by exact I0 (by':=72) 2 rfl rfl rfl rfl H1 Tryz.type144 rfl rfl rfl rfl rfl rfl zA zA rfl Be7))))):A:=h k
theorem zq132 {p:Prop}(h:p:=by refine zF rfl Tryz.call87 (T7 _ _ _) AR5 ?_;refine R6 ?_;refine AF2 rfl rfl (Y9 rfl rfl rfl) (fun hc=>zG rfl Tryz.call323 (An7 _) zS) ?_;refine R15 ?_;exact D1 rfl (A5 rfl CQ8)):p:=h
theorem zq133 {A B:Prop}(k:B)(h:B→A:=by exact s2 (A1 rfl (Q7 (places:=#[(0,1),(1,1),(2,1)]) rfl Y7 zeroValue38 (fun w=>by kernel_rfl) rfl (B6 zA (F6 one_v5) (B6 zA (X2 _ _) (B6 zA (X2 _ _) N6))) rfl)) (by exact t1)):A:=h k
theorem zq134 {A B:Prop}(k:B)(h:B→A:=by exact s2 (B3 rfl rfl (C2 rfl E7 K0 zA zA hc qz1)) (by exact s2 t4 (by exact s2 (B3 rfl rfl (C2 rfl E7 K0 zA zA hc qz1)) (by exact s2 t4 (by exact B3 rfl rfl (C2 rfl X7 z5 zA zA hv qz1)))))):A:=h k
theorem zq135 {A B:Prop}(k:B)(h:B→A:=by exact zF rfl call117 (AZ6 _ qz7) (A2 (A0 rfl) A9)):A:=h k
theorem zq136 {A B:Prop}(k:B)(h:B→A:=by exact s2 (N0 rfl rfl rfl (fun ext=>O1 1 rfl q6 rfl AW4 zA rfl rfl (AC5 (AC9 hL hy)))) (by exact N0 rfl rfl rfl (fun ext=>Q6 1 rfl zA rfl isAgg68 (AC5 (AC9 hL hy)) rfl))):A:=h k
theorem zq137 {p:Prop}(h:p:=by exact Y1 rfl E5 (G0 (A5 rfl W5) (G0 (A5 rfl W5) u9))):p:=h
theorem zq138 {A B:Prop}(k:B)(h:B→A:=by exact s2 (J3 5 E3 E3 rfl) (by exact s2 (s2 t2 t1) (by exact s2 (B3 rfl rfl (zG rfl call125 (Bs6 g qz7) G6)) (by exact s2 t2 (by exact I0 (by':=40) 2 rfl rfl rfl rfl F8 type38 rfl rfl rfl rfl rfl rfl zA zA rfl qz1))))):A:=h k
theorem zq139 {A B:Prop}(k:B)(h:B→A:=by exact s2 t1 (by exact H3 qz9)):A:=h k
theorem zq140 {A B:Prop}(k:B)(h:B→A:=by exact s2 (AWP.le (U1 3 (t:=nin B8.ow (AG3 q x t) (fx v91)) ((hto v91).2.2))) (by exact t4)):A:=h k
theorem zq141 {A B:Prop}(k:B)(h:B→A:=by exact s2 (A1 rfl (j7 6 rfl zA rfl qz0 rfl)) (by exact s2 (A1 rfl (O1 6 rfl T1 rfl Y5 zA rfl rfl qz0)) (by exact s2 (A1 rfl (Q6 6 rfl zA rfl AM5 qz0 rfl)) (by exact s2 (s2 t4 t1) (by exact I0 (by':=40) 7 rfl rfl rfl rfl N1 type58 rfl rfl rfl rfl rfl rfl zA zA rfl qz1))))):A:=h k
theorem zq142 {p:Prop}(h:p:=by refine R7 ?_;exact Y1 rfl E5 (G0 (F5 (ys:=_) 3 rfl rfl S5 K8 rfl) V6)):p:=h
theorem zq143 {p:Prop}(h:p:=by exact H8 [0,0,0,0,0,0,0] 0 (nin B5.ow W'.Txns T++nin C5.ow W'.Looks L) ((Ab0 W' x23)) (hd.trans (BH6 hd.wi ok23)) rfl B7 Ba0):p:=h
theorem zq144 {A B:Prop}(k:B)(h:B→A:=by exact M1 rfl (Y6 rfl rfl rfl) (fun hc=>C2 rfl L3 Q1 (A7 rfl hc) (A7 rfl hc) hx qz6)):A:=h k
theorem zq145 {A B:Prop}(k:B)(h:B→A:=by exact I0 (by':=16) 1 rfl rfl rfl rfl E2 type9 rfl rfl rfl rfl rfl rfl zA zA rfl qz1):A:=h k
theorem zq146 {A B:Prop}(k:B)(h:B→A:=by exact M2 [3,3,3,3,3,3,3] 3 7 (nwZ w T L) (fun zz=>nwZ w T L) rfl rfl rfl rfl call120 rfl rfl (hput) (A2 zA (A2 zA (A2 (AU6 zA Ap7) A9))) (fun a=>O4)):A:=h k
theorem zq147 {A B:Prop}(k:B)(h:B→A:=by exact M2 [2,2,2,2,2,2,2] 2 7 (nwZ w T L) (fun zz=>nwZ w T L) rfl rfl rfl rfl call120 rfl rfl (hput) (A2 zA (A2 zA (A2 (AU6 zA Ap7) A9))) (fun a=>O4)):A:=h k
theorem zq148 {A B:Prop}(k:B)(h:B→A:=by exact s2 (A1 rfl (C2 rfl D4 F9 zA zA hxl qz7)) (by exact t2)):A:=h k
theorem zq149 {A B:Prop}(k:B)(h:B→A:=by exact s2 t2 (by exact s2 (A1 rfl (G7 rfl L2)) (by exact s2 t2 t1))):A:=h k
theorem zq150 {A B:Prop}(k:B)(h:B→A:=by exact s2 (s2 t4 t2) (by exact s2 (zF rfl call81 (AS0 _ X9) (A2 (A0 rfl) A9)) (by exact s2 t8 (by exact s2 (S0 rfl (fun hc=>zG rfl call222 (BS1 _ X9) (A2 (A7 rfl hc) A9))) (by exact s2 t4 (s2 t2 t1)))))):A:=h k
theorem zq151 {A B:Prop}(k:B)(h:B→A:=by exact s2 t4 (by exact M2 [0,0,0,0,0,0,0] 0 7 (nwZ w T L) (fun zz=>nwZ zz T L) rfl rfl rfl rfl call392 rfl rfl (BQ5 b w X T L t hw hT qz7) F3 (fun a=>O4))):A:=h k
theorem zq152 {A B:Prop}(k:B)(h:B→A:=by exact s2 (N2 0 rfl rfl rfl zA zA (F6 one_v38_4) rfl sizeOf26 rfl) (by exact s2 t1 (by exact s2 (H3 qz9) (by exact s2 (fun zvz=>zL [0,3] zvz) (by exact s2 (P1 _ [(0,false),(1,false),(3,false),(4,false),(5,false),(6,false),(7,false),(2,true),(8,true),(9,false),(10,true)] E3 E3 rfl (U8 2)) (by exact s2 (s2 t4 t1) (by exact s2 (N0 rfl rfl rfl (fun ext=>C2 rfl K1 i8 zA zA hk qz1)) (by exact s2 t1 (by exact U2 rfl rfl rfl (AC3 rfl V2 u5) (fun a _=>qz3)))))))))):A:=h k
theorem zq153 {p:Prop}(h:p:=by exact⟨by omega,by rw[hinv.2,J8 hx,AA7,Am8 hx hy (fun h0=>by simp_all),show y7 x=true by simp_all,Bool.true_and]⟩):p:=h
theorem zq154 {A B:Prop}(k:B)(h:B→A:=by exact s2 (B3 rfl rfl (j7 6 rfl zA rfl qz0 rfl)) (by exact s2 (B3 rfl rfl (O1 6 rfl T1 rfl AA0 zA rfl rfl qz0)) (by exact B3 rfl rfl (Q6 6 rfl zA rfl isAgg25 qz0 rfl)))):A:=h k
theorem zq155 {A B:Prop}(k:B)(h:B→A:=by exact zF rfl call87 (T7 _ _ _) AR5):A:=h k
theorem zq156 {A B:Prop}(k:B)(h:B→A:=by exact s2 (A1 rfl (C2 rfl M4 U3 zA zA ht qz1)) (by exact t2)):A:=h k
theorem zq157 {A B:Prop}(k:B)(h:B→A:=by exact s2 (J3 8 E3 E3 rfl) (by exact s2 (s2 t4 (s2 t2 t1)) (by exact s2 (B3 rfl rfl (I4 4 rfl F8 C6 zA rfl zA qz7 AE8)) (by exact s2 t1 (by exact e8 4 rfl rfl rfl zA zA (e6 _) rfl C6 rfl qz1))))):A:=h k
theorem zq158 {p:Prop}(h:p:=by refine R3 ?_;exact zq16):p:=h
theorem zq159 {A B:Prop}(k:B)(h:B→A:=by exact s2 (s2 t4 t2) (by exact s2 (zF rfl call163 (Bl5 (i9 t.Got) S.2.2 qz7 qz7) F3) (by exact s2 (zF rfl call162 (Bl6 cuts _ qz7) (A2 (A0 rfl) (A2 (A0 rfl) A9))) (by exact t16)))):A:=h k
theorem zq160 {p:Prop}(h:p:=by refine R5 ?_;exact D1 rfl (A5 rfl CR4)):p:=h
theorem zq161 {A B:Prop}(k:B)(h:B→A:=by exact F7 rfl rfl rfl (S9 [1] rfl Tryz.call206 rfl (Bt2 _ _ hcode _ x7.2 _ ok7.2.1 E5 qz7) (A2 (A0 rfl) (A2 (A0 rfl) (A2 L1 A9))) rfl) (fun a _=>qz3)):A:=h k
theorem zq162 {A B:Prop}(k:B)(h:B→A:=by exact s2 (B3 rfl rfl (j7 6 rfl zA rfl qz0 rfl)) (by exact s2 (B3 rfl rfl (O1 6 rfl T1 rfl Y5 zA rfl rfl qz0)) (by exact B3 rfl rfl (Q6 6 rfl zA rfl AM5 qz0 rfl)))):A:=h k
theorem zq163 {A B:Prop}(k:B)(h:B→A:=by exact AWP.le (BR5 5 3 (.arr lv 105 1 ((List.replicate N ([]:List G9)).map fun l=>[AV.list 3 (l.map G9.cs)])) rfl (⟨rfl,rfl,rfl,DM4 N⟩) M6)):A:=h k
theorem zq164 {p:Prop}(h:p:=by exact⟨h2.1,h2.2,rfl,rfl⟩):p:=h
theorem zq165 {A B:Prop}(k:B)(h:B→A:=by exact s2 (A1 rfl (j7 6 rfl zA rfl qz0 rfl)) (by exact s2 (A1 rfl (O1 6 rfl T1 rfl E9 zA rfl rfl qz0)) (by exact A1 rfl (Q6 6 rfl zA rfl O3 qz0 rfl)))):A:=h k
theorem zq166 {A B:Prop}(k:B)(h:B→A:=by exact zI [0] rfl call32 (V4 _ _ hcode _ _ Aj9 qz7) (A2 (A0 rfl) (A2 L1 A9)) rfl):A:=h k
theorem zq167 {A B:Prop}(k:B)(h:B→A:=by exact s2 (A1 rfl (j7 6 rfl zA rfl qz2 rfl)) (by exact s2 (A1 rfl (O1 6 rfl M5 rfl E9 zA rfl rfl qz2)) (by exact q9 6 rfl rfl rfl zA zA (X2 _ _) rfl E9 qz2 rfl))):A:=h k
theorem zq168 {A B:Prop}(k:B)(h:B→A:=by exact s2 (s2 t4 t1) (by exact s2 (A1 rfl (C2 rfl U6 Z1 zA zA hx qz1)) (by exact t2))):A:=h k
theorem zq169 {A B:Prop}(k:B)(h:B→A:=by exact s2 (A1 rfl (w_mul rfl zA L1)) (by exact s2 t1 (by exact s2 (A1 rfl (Ad1 rfl E3 underlying75 zA)) (by exact s2 (A1 rfl (CG8 rfl zA zA)) (by exact A1 rfl (CG8 rfl zA L1)))))):A:=h k
theorem zq170 {p:Prop}(h:p:=by refine R7 ?_;refine i7 70 3 ?_;exact I9 [0] (E6) (trivial) rfl Cl4 (j6 rfl E5 (G0 (F5 (ys:=_) 1 rfl rfl K6 C6 rfl) V6))):p:=h
theorem zq171 {A B:Prop}(k:B)(h:B→A:=by exact s2 (s2 t2 t1) (by exact s2 (A1 rfl (G7 rfl (O9 (l:=[]) rfl))) (by exact A1 rfl (G7 rfl (j0 (sz:=3)))))):A:=h k
theorem zq172 {A B:Prop}(k:B)(h:B→A:=by exact B3 rfl rfl (C2 rfl E2 I6 zA zA hy qz1)):A:=h k
theorem zq173 {A B:Prop}(k:B)(h:B→A:=by exact AZ3 rfl rfl rfl (AB5 2 rfl rfl zA zA (e6 _) rfl P4 rfl) (fun a _=>qz3)):A:=h k
theorem zq174 {A B:Prop}(k:B)(h:B→A:=by exact AF2 rfl rfl (Y9 rfl rfl rfl) (fun hc=>Bn3 rfl (A7 rfl hc) (A7 rfl hc))):A:=h k
theorem zq175 {p:Prop}(h:p:=by exact⟨_,rfl,⟨_,rfl,m3.cons rfl (m3.cons ⟨fun h=>Ax1,fun _=>⟨_,_,rfl⟩⟩ (m3.nil _))⟩,hb⟩):p:=h
theorem zq176 {A B:Prop}(k:B)(h:B→A:=by exact F7 rfl rfl rfl (J2 4 (fun _=>rfl) (Aj3 (by':=8) 4 rfl J0 type102 rfl rfl rfl rfl rfl rfl zA (CC4 1 rfl zA) rfl qz1)) (fun a _=>qz3)):A:=h k
theorem zq177 {A B:Prop}(k:B)(h:B→A:=by exact s2 (A1 rfl (O1 1 rfl q6 rfl AW4 zA rfl rfl (AC5 (AC9 hL hy)))) (by exact s2 (Ag9 1 rfl rfl rfl zA zA (S8 _ _) rfl AW4 (AC9 hL hy) rfl) (by exact t8))):A:=h k
theorem zq178 {p:Prop}(h:p:=by refine R14 ?_;refine L5 rfl (fun hc=>zG rfl Tryz.call323 (An7 _) zS) ?_;refine R9 ?_;exact D1 rfl (A5 rfl CQ8)):p:=h
theorem zq179 {A B:Prop}(k:B)(h:B→A:=by exact L5 rfl (fun hc=>zG rfl Tryz.call87 (T7 _ _ _) (A2 (A7 rfl hc) AT1))):A:=h k
theorem zq180 {p:Prop}(h:p:=by refine R5 ?_;exact D1 rfl (A5 rfl Be5)):p:=h
theorem zq181 {p:Prop}(h:p:=by refine R7 ?_;refine i7 70 3 ?_;exact I9 [0] (E6) (trivial) rfl CQ4 (j6 rfl E5 (G0 (F5 (ys:=_) 1 rfl rfl K6 C6 rfl) V6))):p:=h
theorem zq182 {p:Prop}(h:p:=by refine R3 ?_;exact H8 [1,1,1,1,1,1,1] 2 (nwZ w T L) () (trivial) rfl B7 (O2 rfl (F5 (ys:=_) 0 rfl rfl S5 K8 rfl))):p:=h
theorem zq183 {A B:Prop}(k:B)(h:B→A:=by exact s2 (N8 rfl rfl rfl (fun ext=>I4 3 rfl F8 C6 zA rfl zA qz7 AF7)) (by exact s2 (N8 rfl rfl rfl (fun ext=>r5 3 rfl zA rfl K6 C6 qz5 E5)) (by exact t1))):A:=h k
theorem zq184 {p:Prop}(h:p:=by refine R11 ?_;refine L5 rfl (fun hc=>zG rfl Tryz.call230 (Aj5 _) zS) ?_;refine R9 ?_;exact D1 rfl (A5 rfl CB0)):p:=h
theorem zq185 {A B:Prop}(k:B)(h:B→A:=by exact s2 t2 (by exact A1 rfl (G7 rfl (O9 (l:=[]) rfl)))):A:=h k
theorem zq186 {A B:Prop}(k:B)(h:B→A:=by exact F7 rfl rfl rfl (J2 3 (fun _=>rfl) (AC6 3<|Ay1 rfl X7 z5 zeroValue209 rfl rfl rfl rfl (B6 zA (e6 _) N6) rfl rfl)) (fun a _=>qz3)):A:=h k
theorem zq187 {A B:Prop}(k:B)(h:B→A:=by exact F7 rfl rfl rfl (AC3 rfl J0 u6) (fun a _=>qz3)):A:=h k
theorem zq188 {p:Prop}(h:p:=by exact H8 [1,1,1,1,1,1,1] 1 (nwZ w T L) () (trivial) rfl B7 (O2 rfl (F5 (ys:=_) 0 rfl rfl Ae2 AY5 rfl))):p:=h
theorem zq189 {p:Prop}(h:p:=by refine zq94 ?_;exact I9 [] ((Af0,false)) (rfl) rfl B7 (j6 rfl E5 (G0 (F5 (ys:=_) 0 rfl rfl V5 P4 rfl) V6))):p:=h
theorem zq190 {p:Prop}(h:p:=by exact Y1 rfl E5 AT2):p:=h
theorem zq191 {p:Prop}(h:p:=by exact Y1 rfl E5 (G0 (F5 (ys:=_) 0 rfl rfl AW3 Q2 rfl) V6)):p:=h
theorem zq192 {A B:Prop}(k:B)(h:B→A:=by exact L5 rfl (fun hc=>zG rfl call139 (Au0 _ _) zS)):A:=h k
theorem zq193 {p:Prop}(h:p:=by refine R7 ?_;refine i7 70 3 ?_;exact I9 [0] (E6) (trivial) rfl CG3 (j6 rfl E5 (G0 (F5 (ys:=_) 1 rfl rfl K6 C6 rfl) V6))):p:=h
theorem zq194 {A B:Prop}(k:B)(h:B→A:=by exact s2 (N2 1 rfl rfl rfl zA zA (F6 one_v68_8) rfl Y5 rfl) (by exact s2 t2 (by exact s2 (H3 qz9) (by exact s2 (s2 t2 t1) (by exact zI [] rfl call124 (AU7 t.Terms qz7) G6 rfl))))):A:=h k
theorem zq195 {A B:Prop}(k:B)(h:B→A:=by exact AWP.le (BR4 (t:=0) rfl)):A:=h k
theorem zq196 {A B:Prop}(k:B)(h:B→A:=by exact F7 rfl rfl rfl (J2 7 (fun _=>rfl) (AC6 7<|L8 (by':=8) rfl D3 type3 rfl rfl rfl rfl rfl rfl zA zA qz1 qz1)) (fun a _=>qz3)):A:=h k
theorem zq197 {A B:Prop}(k:B)(h:B→A:=by exact zF rfl call193 (AH8 _ _) (A2 L1 G6)):A:=h k
theorem zq198 {A B:Prop}(k:B)(h:B→A:=by exact s2 (s2 t4 t2) (by exact zI [1] rfl Tryz.call343 (Bb7 _ s.Held (Ak0 s.Held r.Txn) hlt2 qz7) (A2 (A0 rfl) (A2 (A0 rfl) (A2 (A0 rfl) A9))) rfl)):A:=h k
theorem zq199 {p:Prop}(h:p:=by refine R4 ?_;refine zF rfl call188 (BN8 _ qz7) (A2 (A0 rfl) A9) ?_;refine R8 ?_;exact D1 rfl (A5 rfl BQ9)):p:=h
theorem zq200 {A B:Prop}(k:B)(h:B→A:=by exact F7 rfl rfl rfl (J2 2 (fun _=>rfl) (N3 (by':=24) 2 rfl K7 type118 rfl rfl rfl rfl rfl rfl zA zA rfl Be4)) (fun a _=>qz3)):A:=h k
theorem zq201 {A B:Prop}(k:B)(h:B→A:=by exact B3 rfl rfl (BI4 rfl AN7 E3 E3 zA zA (j5 E3 O3 rfl rfl (AY3 W8) (j5 E3 AF5 rfl rfl (Am1 U4) (j5 E3 O3 rfl rfl (AY3 W8) Aj0))))):A:=h k
theorem zq202 {A B:Prop}(k:B)(h:B→A:=by exact zF rfl call29 (Z0 _ _ _) AR5):A:=h k
theorem zq203 {p:Prop}(h:p:=by refine R7 ?_;exact H8 [3] 3 (nin D8.ow g.Reps xs) (v,xs) (hxs) rfl B7 (O2 rfl (F5 (ys:=_) 1 rfl rfl K6 C6 rfl))):p:=h
theorem zq204 {A B:Prop}(k:B)(h:B→A:=by exact s2 (s2 t2 t1) (by exact S3 rfl rfl rfl rfl G5 M8)):A:=h k
theorem zq205 {A B:Prop}(k:B)(h:B→A:=by exact s2 (s2 t4 t1) (by exact A1 rfl (C2 rfl D3 E9 zA zA hx qz1))):A:=h k
theorem zq206 {p:Prop}(h:p:=by refine R8 ?_;exact I9 [2] x17 (trivial) rfl CQ4 (j6 rfl E5 (G0 (F5 (ys:=_) 3 rfl rfl K6 C6 rfl) V6))):p:=h
theorem zq207 {p:Prop}(h:p:=by refine R6 ?_;exact zq32):p:=h
theorem zq208 {A B:Prop}(k:B)(h:B→A:=by exact F7 rfl rfl rfl (J2 2 (fun _=>rfl) (N3 (by':=8) 2 rfl J0 type102 rfl rfl rfl rfl rfl rfl zA zA rfl qz1)) (fun a _=>qz3)):A:=h k
theorem zq209 {A B:Prop}(k:B)(h:B→A:=by exact F7 rfl rfl rfl (J2 1 (fun _=>rfl) (L8 (by':=24) rfl K1 type105 rfl rfl rfl rfl rfl rfl zA zA qz1 qz1)) (fun a _=>qz3)):A:=h k
theorem zq210 {p:Prop}(h:p:=by refine R9 ?_;exact I9 [1] v (trivial) rfl B7 (j6 rfl E5 (G0 (F5 (ys:=_) 2 rfl rfl S5 K8 rfl) V6))):p:=h
theorem zq211 {A B:Prop}(k:B)(h:B→A:=by exact F7 rfl rfl rfl (J2 1 (fun _=>rfl) (L8 (by':=8) rfl J0 type102 rfl rfl rfl rfl rfl rfl zA zA qz1 qz1)) (fun a _=>qz3)):A:=h k
theorem zq212 {A B:Prop}(k:B)(h:B→A:=by exact s2 t2 (by exact s2 (Z9 _ 21 (.pure 0 (.pure 1 (.pure 2 (.pure 3 (.pure 4 (.pure 5 (.pure 6 (.pure 7 (.pure 8 (.pure 9 (.pure 10 (.pure 11 (.pure 12 (.pure 13 (.pure 14 (.pure 15 (.pure 16 (.pure 17 (.pure 18 (.pure 19 (.e1 20 .nil))))))))))))))))))))) E3 E3 rfl (U8 8)) (by exact s2 (s2 t4 t2) (by exact s2 (N8 rfl rfl rfl (fun ext=>I4 3 rfl F8 C6 zA rfl zA qz7 AE8)) (by exact s2 (N8 rfl rfl rfl (fun ext=>O1 3 rfl Y7 rfl AR1 zA rfl rfl qz5)) (by exact s2 (N8 rfl rfl rfl (fun ext=>Q6 3 rfl zA rfl isAgg36 qz5 rfl)) (by exact s2 (s2 t4 t2) (by exact s2 (N8 rfl rfl rfl (fun ext=>I4 3 rfl F8 C6 zA rfl zA qz7 AE8)) (by exact s2 (N8 rfl rfl rfl (fun ext=>O1 3 rfl Y7 rfl E9 zA rfl rfl qz5)) (by exact s2 (N8 rfl rfl rfl (fun ext=>Q6 3 rfl zA rfl O3 qz5 rfl)) (by exact s2 (N8 rfl rfl rfl (fun ext=>C2 rfl D4 F9 zA zA (Z3 hin) qz7)) (by exact s2 t2 (by exact F7 rfl rfl rfl (AC6 8<|S4 rfl zeroValue70 rfl) (fun a _=>qz3)))))))))))))):A:=h k
theorem zq213 {A B:Prop}(k:B)(h:B→A:=by exact F7 rfl rfl rfl (J2 1 (fun _=>rfl) (L8 (by':=8) rfl D3 type3 rfl rfl rfl rfl rfl rfl zA zA qz1 qz1)) (fun a _=>qz3)):A:=h k
theorem zq214 {p:Prop}(h:p:=by exact H8 [0,0,0,0,0,0,0] 0 (nwZ w T L) (((w,false),L)) (CR2) rfl CR3 (O2 rfl (A5 rfl B7))):p:=h
theorem zq215 {A B:Prop}(k:B)(h:B→A:=by exact s2 (A1 rfl (C2 rfl j9 K8 zA zA hst qz7)) (by exact s2 t2 t1)):A:=h k
theorem zq216 {p:Prop}(h:p:=by refine R7 ?_;exact zq3):p:=h
theorem zq217 {A B:Prop}(k:B)(h:B→A:=by exact s2 (B3 rfl rfl (AZ2 rfl AL0 Al5 zA zA qz1 qz1)) (by exact s2 t2 (by exact s2 (B3 rfl rfl (AZ2 rfl AL0 Al5 zA zA qz1 qz1)) (by exact t1)))):A:=h k
theorem zq218 {p:Prop}(h:p:=by refine R3 ?_;exact zq3):p:=h
theorem zq219 {A B:Prop}(k:B)(h:B→A:=by exact s2 (s2 t4 t1) (by exact N0 rfl rfl rfl (fun ext=>C2 rfl D4 F9 zA zA hx qz1))):A:=h k
theorem zq220 {A B:Prop}(k:B)(h:B→A:=by exact s2 (s2 t4 t2) (by exact s2 (A1 rfl (AX5 rfl E2 I6 zA zA qz7 qz208)) (by exact s2 t4 (s2 t2 t1)))):A:=h k
theorem zq221 {A B:Prop}(k:B)(h:B→A:=by exact s2 (s2 t4 (s2 t2 t1)) (by exact s2 (A1 rfl (w_shr rfl zA L1 E5 E5)) (by exact s2 (A1 rfl (w_band rfl zA L1)) (by exact s2 (A1 rfl (Ad1 rfl E3 W8 zA)) (by exact s2 t2 t1))))):A:=h k
theorem zq222 {p:Prop}(h:p:=by refine R7 ?_;refine BG7 0 0 3 rfl rfl ?_;exact Y1 rfl E5 (G0 (F5 (ys:=_) 0 rfl rfl K6 C6 rfl) V6)):p:=h
theorem zq223 {A B:Prop}(k:B)(h:B→A:=by exact s2 (s2 t4 t1) (by exact s2 (A1 rfl (CM2 (a:=((cuts.map fun s=>[AV.str s]).length:Int)+1) N (Ba2 rfl zA L1 BF8) BF8)) (by exact s2 t2 t1))):A:=h k
theorem zq224 {p:Prop}(h:p:=by refine R7 ?_;exact I9 [1,3] (v,x13) (trivial) rfl B7 (O2 rfl (F5 (ys:=_) 2 rfl rfl S5 K8 rfl))):p:=h
end Go.AV
namespace Go.M
open Go.AV
abbrev Str :=List UInt8
@[reducible] def strs (l:List Str):AV:=AV.list 1 (l.map fun s=>[AV.str s])
@[reducible] def ints (l:List Int):AV:=AV.list 1 (l.map fun s=>[AV.int s])
def D2 {α:Type}(f:α→Nat)(l:List α):Nat:=l.length+(l.map f).sum
def szR (n:Nat)(left:Int):Int:=if left<n then -1 else left-n
theorem sum_le {α:Type}(f:α→Nat):∀(l:List α) (i:Nat) (x:α),l[i]? =some x→((l.take i).map f).sum+f x≤(l.map f).sum
  |[],i,x,h=>by simp at h
  |y::l,0,x,h=>by simp at h;subst h;simp
  | y::l,i+1,x,h=>by
    have:=sum_le f l i x Ag3;simp only[BG1,m4,List.sum_cons];omega
theorem Af8 {α:Type}{f:α→Nat}{l:List α}{x:α}(h:x∈l):f x≤D2 f l:=by
  obtain⟨i,hi⟩:=i5 h;have:=sum_le f l i x hi;unfold D2;omega
theorem M7 {α:Type}{f:α→Nat}{l:List α}:l.length≤D2 f l:=by unfold D2;omega
theorem W4 {α:Type}{f:α→Nat}{l:List α}{i:Nat}{x:α}(h:l[i]? =some x):f x≤D2 f l:=Af8 (C3 h)
theorem BN4 {α:Type}{a b:List α}{i:Nat}(hl:a.length=b.length)(h:a.take i=b.take i)(hi:a.length≤i):a=b:=by
  rwa [S7 hi,S7 qz7]at h
theorem Ay3 {α:Type}{a b:List α}{i:Nat}{x:α}(h:a.take i=b.take i)(ha:a[i]? =some x)(hb:b[i]? =some x):a.take (i+1)=b.take (i+1):=by
  rw[X3,X3,h,ha,hb]
theorem Aw1 {α:Type}[Inhabited α](l:List α)(i:Nat):∃y,i<l.length→l[i]? =some y:=⟨l[i]?.getD default,fun h=>by rw[Q5 h];rfl⟩
def bs {α:Type} (f:α→Int) (l:List α) (i j:Nat):Nat:=
  if i<j then
    match l[(i+j) / 2]? with
    |some x=>if f x<0 then bs f l ((i+j) / 2+1) j else bs f l i ((i+j) / 2)
    |none=>i
  else i
termination_by j-i
def Ao3 {α:Type}(f:α→Int)(l:List α)(n:Nat):Bool:=
  match l[n]? with
  |some x=>f x==0
  |none=>false
theorem bs_lo {α:Type}{f:α→Int}{l:List α}{i j:Nat}{x:α}(h:i<j)(hx:l[(i+j) / 2]? =some x)(hf:f x<0):bs f l i j=bs f l ((i+j) / 2+1) j:=by
  rw[bs,D9 h,hx];simp only[hf,if_true]
theorem bs_hi {α:Type}{f:α→Int}{l:List α}{i j:Nat}{x:α}(h:i<j)(hx:l[(i+j) / 2]? =some x)(hf:¬f x<0):bs f l i j=bs f l i ((i+j) / 2):=by
  rw[bs,D9 h,hx];simp only[hf,if_false]
theorem Cp1 {α:Type}{f:α→Int}{l:List α}{i j:Nat}(h:¬i<j):bs f l i j=i:=by rw[bs,D0 h]
theorem half_eq {i j:Nat}(h:i+j≤9223372036854775807):IntKind.i64.wrap (IntKind.u64.wrap ((i:Int)+(j:Int)) / 2 ^ ((1:Int).toNat))=((i+j) / 2:Nat):=by
  have h1:IntKind.u64.wrap ((i:Int)+(j:Int))=(i:Int)+(j:Int):=by simp only[IntKind.wrap,IntKind.bits,IntKind.signed];simp;omega
  rw[h1];have h2:((i:Int)+(j:Int)) / 2 ^ ((1:Int).toNat)=(((i+j) / 2:Nat):Int):=by
    show ((i:Int)+(j:Int)) / 2=_
    omega
  rw[h2];exact BR1 qz7
def idxFrom {α:Type}(p:α→Bool):List α→Int→Int
  |[],_=> -1
  |x::xs,k=>if p x then k else idxFrom p xs (k+1)
theorem BG8 {α:Type}(p:α→Bool):∀(l:List α) (k:Int),0≤k→decide (0≤idxFrom p l k)=l.any p
  |[],_,_=>rfl
  | x::xs,k,h=>by
    unfold idxFrom
    cases hp:p x with
    |true=>simp[hp];exact h
    |false=>simp[hp,BG8 p xs (k+1) qz7]
theorem ins_grow {α β:Type}{f:α→β}{l:List α}{x:α}{i:Nat}{Z:List β}(hi:i≤l.length)(hZ:Z.length=l.length+1-i):(l.take i++x::l.drop i).map f=
    ((((l.map f).take i++Z).take i++[f x]++((l.map f).take i++Z).drop (i+[f x].length)).take (i+1)++(l.map f).drop i++(((l.map f).take i++Z).take i++[f x]++((l.map f).take i++Z).drop (i+[f x].length)).drop (i+1+((l.map f).drop i).length)):=by
  have h1:((l.map f).take i).length=i:=by simp;omega
  have hA:((l.map f).take i++Z).take i=(l.map f).take i:=List.take_left' h1;have h2:((l.map f).take i++[f x]).length=i+1:=by simp;omega
  rw[hA,List.take_left' h2];have hB:((l.map f).take i++[f x]++((l.map f).take i++Z).drop (i+[f x].length)).length≤i+1+((l.map f).drop i).length:=by
    simp only[I2,H0,A8,J7,T5,AB9,hZ];omega
  rw[r9 hB];simp[List.map_take,List.map_drop]
theorem DY3 {α β:Type}{f:α→β}{l:List α}{x:α}{i:Nat}(hi:i<l.length):(l.take i++x::l.drop i).map f=
    ((l.map f).take (i+1)++(l.map f).drop i).take i++[f x]++((l.map f).take (i+1)++(l.map f).drop i).drop (i+[f x].length):=by
  have h1:((l.map f).take (i+1)).length=i+1:=by simp;omega
  rw[List.take_append_of_le_length qz7,List.take_take,Nat.min_eq_left qz7,show i+[f x].length=i+1 from rfl,List.drop_left' h1];simp[List.map_take,List.map_drop]
structure S6 where
  Off:Int
deriving DecidableEq,Inhabited
def S6.cs (c:S6):List AV:=[AV.int c.Off]
theorem S6.flat (c:S6):∀x∈c.cs,Flat x:=(I8 (n7 _ _) W9)
def S6.size (c:S6):Nat:=0
structure B1 where
  Key:Str
  Val:Str
  Gone:Bool
deriving DecidableEq,Inhabited
def B1.cs (c:B1):List AV:=[AV.str c.Key,AV.str c.Val,AV.bool c.Gone]
theorem B1.flat (c:B1):∀x∈c.cs,Flat x:=(I8 (AI7 _) (I8 (AI7 _) (I8 (T9 _) W9)))
def B1.size (c:B1):Nat:=c.Key.length+c.Val.length
def B1.ok (c:B1):Prop:=c.Key.length≤9223372036854775807∧c.Val.length≤9223372036854775807
structure N5 where
  Kind:Int
  Txn:Int
  Time:Int
  Lead:Int
  Reads:List Str
  Writes:List B1
  Yes:Bool
deriving DecidableEq,Inhabited
def N5.cs (c:N5):List AV:=[AV.int c.Kind,AV.int c.Txn,AV.int c.Time,AV.int c.Lead,strs c.Reads,AV.list 3 (c.Writes.map B1.cs),AV.bool c.Yes]
def N5.size (c:N5):Nat:=D2 (fun x=>x.length) c.Reads+D2 B1.size c.Writes
def N5.ok (c:N5):Prop:=(∀x∈c.Reads,x.length≤9223372036854775807)∧(∀x∈c.Writes,x.ok)
structure F4 where
  Term:Int
  Rec:N5
deriving DecidableEq,Inhabited
def F4.cs (c:F4):List AV:=[AV.int c.Term,AV.int c.Rec.Kind,AV.int c.Rec.Txn,AV.int c.Rec.Time,AV.int c.Rec.Lead,strs c.Rec.Reads,AV.list 3 (c.Rec.Writes.map B1.cs),AV.bool c.Rec.Yes]
def F4.size (c:F4):Nat:=c.Rec.size
def F4.ok (c:F4):Prop:=c.Rec.ok
structure D8 where
  Up:Bool
  Log:List F4
  Sure:Int
deriving DecidableEq,Inhabited
def D8.cs (c:D8):List AV:=[AV.bool c.Up,AV.list 8 (c.Log.map F4.cs),AV.int c.Sure]
def D8.size (c:D8):Nat:=D2 F4.size c.Log
def D8.ok (c:D8):Prop:=(∀x∈c.Log,x.ok)
structure C1 where
  Reps:List D8
  Term:Int
  Lead:Int
deriving DecidableEq,Inhabited
def C1.cs (c:C1):List AV:=[AV.list 3 (c.Reps.map D8.cs),AV.int c.Term,AV.int c.Lead]
def C1.size (c:C1):Nat:=D2 D8.size c.Reps
def C1.ok (c:C1):Prop:=(∀x∈c.Reps,x.ok)
structure G9 where
  Key:Str
  Txn:Int
  Write:Bool
deriving DecidableEq,Inhabited
def G9.cs (c:G9):List AV:=[AV.str c.Key,AV.int c.Txn,AV.bool c.Write]
theorem G9.flat (c:G9):∀x∈c.cs,Flat x:=(I8 (AI7 _) (I8 (n7 _ _) (I8 (T9 _) W9)))
def G9.size (c:G9):Nat:=c.Key.length
def G9.ok (c:G9):Prop:=c.Key.length≤9223372036854775807
structure U0 where
  Time:Int
  Val:Str
  Gone:Bool
deriving DecidableEq,Inhabited
def U0.cs (c:U0):List AV:=[AV.int c.Time,AV.str c.Val,AV.bool c.Gone]
theorem U0.flat (c:U0):∀x∈c.cs,Flat x:=(I8 (n7 _ _) (I8 (AI7 _) (I8 (T9 _) W9)))
def U0.size (c:U0):Nat:=c.Val.length
def U0.ok (c:U0):Prop:=c.Val.length≤9223372036854775807
structure B8 where
  Key:Str
  Vers:List U0
deriving DecidableEq,Inhabited
def B8.cs (c:B8):List AV:=[AV.str c.Key,AV.list 3 (c.Vers.map U0.cs)]
def B8.size (c:B8):Nat:=c.Key.length+D2 U0.size c.Vers
def B8.ok (c:B8):Prop:=c.Key.length≤9223372036854775807∧(∀x∈c.Vers,x.ok)
structure E0 where
  Txn:Int
  Time:Int
  Lead:Int
  Reads:List Str
  Writes:List B1
deriving DecidableEq,Inhabited
def E0.cs (c:E0):List AV:=[AV.int c.Txn,AV.int c.Time,AV.int c.Lead,strs c.Reads,AV.list 3 (c.Writes.map B1.cs)]
def E0.size (c:E0):Nat:=D2 (fun x=>x.length) c.Reads+D2 B1.size c.Writes
def E0.ok (c:E0):Prop:=(∀x∈c.Reads,x.length≤9223372036854775807)∧(∀x∈c.Writes,x.ok)
structure H2 where
  Txn:Int
  Yes:Bool
  Time:Int
deriving DecidableEq,Inhabited
def H2.cs (c:H2):List AV:=[AV.int c.Txn,AV.bool c.Yes,AV.int c.Time]
theorem H2.flat (c:H2):∀x∈c.cs,Flat x:=(I8 (n7 _ _) (I8 (T9 _) (I8 (n7 _ _) W9)))
def H2.size (c:H2):Nat:=0
structure E1 where
  Floor:Int
  Cells:List B8
  Held:List E0
  Told:List H2
deriving DecidableEq,Inhabited
def E1.cs (c:E1):List AV:=[AV.int c.Floor,AV.list 2 (c.Cells.map B8.cs),AV.list 5 (c.Held.map E0.cs),AV.list 3 (c.Told.map H2.cs)]
def E1.size (c:E1):Nat:=D2 B8.size c.Cells+D2 E0.size c.Held+c.Told.length
def E1.ok (c:E1):Prop:=(∀x∈c.Cells,x.ok)∧(∀x∈c.Held,x.ok)
structure Ac5 where
  Low:Int
  High:Int
deriving DecidableEq,Inhabited
def Ac5.cs (c:Ac5):List AV:=[AV.int c.Low,AV.int c.High]
theorem Ac5.flat (c:Ac5):∀x∈c.cs,Flat x:=(I8 (n7 _ _) (I8 (n7 _ _) W9))
def Ac5.size (c:Ac5):Nat:=0
structure Ai4 where
  Txn:Int
  Reads:List Str
  Writes:List B1
deriving DecidableEq,Inhabited
def Ai4.cs (c:Ai4):List AV:=[AV.int c.Txn,strs c.Reads,AV.list 3 (c.Writes.map B1.cs)]
def Ai4.size (c:Ai4):Nat:=D2 (fun x=>x.length) c.Reads+D2 B1.size c.Writes
def Ai4.ok (c:Ai4):Prop:=(∀x∈c.Reads,x.length≤9223372036854775807)∧(∀x∈c.Writes,x.ok)
structure BX2 where
  Cuts:List Str
  States:List E1
  Orders:List Ai4
deriving DecidableEq,Inhabited
def BX2.cs (c:BX2):List AV:=[strs c.Cuts,AV.list 4 (c.States.map E1.cs),AV.list 3 (c.Orders.map Ai4.cs)]
def BX2.size (c:BX2):Nat:=D2 (fun x=>x.length) c.Cuts+D2 E1.size c.States+D2 Ai4.size c.Orders
def BX2.ok (c:BX2):Prop:=(∀x∈c.Cuts,x.length≤9223372036854775807)∧(∀x∈c.States,x.ok)∧(∀x∈c.Orders,x.ok)
structure TOp where
  Kind:Int
  Key:Str
  Val:Str
  By:Int
deriving DecidableEq,Inhabited
def TOp.cs (c:TOp):List AV:=[AV.int c.Kind,AV.str c.Key,AV.str c.Val,AV.int c.By]
theorem TOp.flat (c:TOp):∀x∈c.cs,Flat x:=(I8 (n7 _ _) (I8 (AI7 _) (I8 (AI7 _) (I8 (n7 _ _) W9))))
def TOp.size (c:TOp):Nat:=c.Key.length+c.Val.length
def TOp.ok (c:TOp):Prop:=c.Key.length≤9223372036854775807∧c.Val.length≤9223372036854775807
structure H7 where
  Key:Str
  Val:Str
  There:Bool
deriving DecidableEq,Inhabited
def H7.cs (c:H7):List AV:=[AV.str c.Key,AV.str c.Val,AV.bool c.There]
theorem H7.flat (c:H7):∀x∈c.cs,Flat x:=(I8 (AI7 _) (I8 (AI7 _) (I8 (T9 _) W9)))
def H7.size (c:H7):Nat:=c.Key.length+c.Val.length
def H7.ok (c:H7):Prop:=c.Key.length≤9223372036854775807∧c.Val.length≤9223372036854775807
structure B5 where
  Ops:List TOp
  Got:List H7
  Terms:List Int
  Begin:Int
  End:Int
  Yes:Bool
  Time:Int
  Dead:Bool
  Put:Bool
  Stopped:Bool
deriving DecidableEq,Inhabited
def B5.cs (c:B5):List AV:=[AV.list 4 (c.Ops.map TOp.cs),AV.list 3 (c.Got.map H7.cs),ints c.Terms,AV.int c.Begin,AV.int c.End,AV.bool c.Yes,AV.int c.Time,AV.bool c.Dead,AV.bool c.Put,AV.bool c.Stopped]
def B5.size (c:B5):Nat:=D2 TOp.size c.Ops+D2 H7.size c.Got+c.Terms.length
def B5.ok (c:B5):Prop:=(∀x∈c.Ops,x.ok)∧(∀x∈c.Got,x.ok)
structure C5 where
  Node:Int
  Keys:List Str
  Got:List H7
  Time:Int
  Begin:Int
  End:Int
deriving DecidableEq,Inhabited
def C5.cs (c:C5):List AV:=[AV.int c.Node,strs c.Keys,AV.list 3 (c.Got.map H7.cs),AV.int c.Time,AV.int c.Begin,AV.int c.End]
def C5.size (c:C5):Nat:=D2 (fun x=>x.length) c.Keys+D2 H7.size c.Got
def C5.ok (c:C5):Prop:=(∀x∈c.Keys,x.length≤9223372036854775807)∧(∀x∈c.Got,x.ok)
structure C7 where
  Now:Int
  Count:Int
  Clocks:List S6
  Cuts:List Str
  Groups:List C1
  Locks:List (List G9)
  Promised:List Int
  Txns:List B5
  Looks:List C5
deriving DecidableEq,Inhabited
def C7.cs (c:C7):List AV:=[AV.int c.Now,AV.int c.Count,AV.list 1 (c.Clocks.map S6.cs),strs c.Cuts,AV.list 3 (c.Groups.map C1.cs),AV.list 1 (c.Locks.map fun x=>[AV.list 3 (x.map G9.cs)]),ints c.Promised,AV.list 10 (c.Txns.map B5.cs),AV.list 6 (c.Looks.map C5.cs)]
def C7.size (c:C7):Nat:=c.Clocks.length+D2 (fun x=>x.length) c.Cuts+D2 C1.size c.Groups+D2 (fun x=>D2 G9.size x) c.Locks+c.Promised.length+D2 B5.size c.Txns+D2 C5.size c.Looks
def C7.ok (c:C7):Prop:=(∀x∈c.Cuts,x.length≤9223372036854775807)∧(∀x∈c.Groups,x.ok)∧(∀x∈c.Locks,(∀y∈x,y.ok))∧(∀x∈c.Txns,x.ok)∧(∀x∈c.Looks,x.ok)
structure r3 where
  Kind:Int
  At:Int
  By:Int
deriving DecidableEq,Inhabited
def r3.cs (c:r3):List AV:=[AV.int c.Kind,AV.int c.At,AV.int c.By]
theorem r3.flat (c:r3):∀x∈c.cs,Flat x:=(I8 (n7 _ _) (I8 (n7 _ _) (I8 (n7 _ _) W9)))
def r3.size (c:r3):Nat:=0
structure Au2 where
  Txn:Int
  Begin:Int
  End:Int
  Yes:Bool
  Look:Bool
  Time:Int
  Got:List H7
  Writes:List B1
deriving DecidableEq,Inhabited
def Au2.cs (c:Au2):List AV:=[AV.int c.Txn,AV.int c.Begin,AV.int c.End,AV.bool c.Yes,AV.bool c.Look,AV.int c.Time,AV.list 3 (c.Got.map H7.cs),AV.list 3 (c.Writes.map B1.cs)]
def Au2.size (c:Au2):Nat:=D2 H7.size c.Got+D2 B1.size c.Writes
def Au2.ok (c:Au2):Prop:=(∀x∈c.Got,x.ok)∧(∀x∈c.Writes,x.ok)
structure AH3 where
  Time:Int
  Group:Int
  Key:Str
  Val:Str
  Gone:Bool
deriving DecidableEq,Inhabited
def AH3.cs (c:AH3):List AV:=[AV.int c.Time,AV.int c.Group,AV.str c.Key,AV.str c.Val,AV.bool c.Gone]
theorem AH3.flat (c:AH3):∀x∈c.cs,Flat x:=(I8 (n7 _ _) (I8 (n7 _ _) (I8 (AI7 _) (I8 (AI7 _) (I8 (T9 _) W9)))))
def AH3.size (c:AH3):Nat:=c.Key.length+c.Val.length
def AH3.ok (c:AH3):Prop:=c.Key.length≤9223372036854775807∧c.Val.length≤9223372036854775807
structure BB0 where
  Name:Str
  Col:Int
  Stage:Int
deriving DecidableEq,Inhabited
def BB0.cs (c:BB0):List AV:=[AV.str c.Name,AV.int c.Col,AV.int c.Stage]
theorem BB0.flat (c:BB0):∀x∈c.cs,Flat x:=(I8 (AI7 _) (I8 (n7 _ _) (I8 (n7 _ _) W9)))
def BB0.size (c:BB0):Nat:=c.Name.length
def BB0.ok (c:BB0):Prop:=c.Name.length≤9223372036854775807
def within (n lo hi:Int):Bool:=decide (lo≤n)&&decide (n≤hi)
def Ar9 (b:UInt8):Bool:=(decide ((97:Int)≤(b.toNat:Int))&&decide ((b.toNat:Int)≤122))||(decide ((48:Int)≤(b.toNat:Int))&&decide ((b.toNat:Int)≤57))
def Bj8 (s:Str)(c:UInt8):Int:=firstIdx ⟨s.toArray⟩ c
def hasB (s o:Str):Bool:=s.all fun c=> !(!Ar9 c&&decide (Bj8 o c<0))
def z7 (s:Str):Bool:=within s.length 1 12&&hasB s [46,47]
def AV3 (s:Str):Bool:=decide ((s.length:Int)≤24)&&hasB s [46,45,44,95]
def Ae6 (s o:Str):Bool:=s.all fun c=>(Ar9 c||o.any fun d=>((c.toNat:Int)==(d.toNat:Int)))
def y7 (s:Str):Bool:=within s.length 1 12&&Ae6 s [46,47]
theorem CZ2 (c:UInt8)(s o:Str):hasB (c::s) o=(!(!Ar9 c&&decide (Bj8 o c<0))&&hasB s o):=rfl
theorem Bo3 (c:UInt8)(s o:Str):Ae6 (c::s) o=((Ar9 c||o.any fun d=>((c.toNat:Int)==(d.toNat:Int)))&&Ae6 s o):=rfl
theorem idxB_neg (o:Str)(c:UInt8):decide (Bj8 o c<0)= !(o.any fun d=>((c.toNat:Int)==(d.toNat:Int))):=by
  have hm:(o.any fun d=>((c.toNat:Int)==(d.toNat:Int)))=decide (c∈o):=by
    rw[AI1];simp only[List.any_eq_true,m6,H6];constructor
    · rintro ⟨d,hd,he⟩
      have:c=d:=UInt8.toNat_inj.1 (by exact_mod_cast he);exact this▸hd
    ·intro h;exact⟨c,h,rfl⟩
  rw[hm];unfold Bj8 firstIdx;have hsz:(ByteArray.mk o.toArray).size=o.length:=by simp[ByteArray.size]
  have hget:∀i,i<o.length→(ByteArray.mk o.toArray)[i]! =o[i]! :=fun i hi=>by
    simp[getElem!_def,ByteArray.getElem?_lt',hsz,hi];rfl
  rw[hsz]
  cases hf:(List.range o.length).find? fun i=>(ByteArray.mk o.toArray)[i]! ==c with
  | some i=>
    have h1:=List.find?_some hf;have h2:=List.mem_range.1 (Ac4 hf);rw[hget i h2]at h1;have h3:c∈o:=by
      have:o[i]! =c:=by simpa using h1
      rw[←this,getElem!_pos o i h2];exact List.getElem_mem h2
    simp[h3]
  | none=>
    have h1:=List.find?_eq_none.1 hf;have h3:¬c∈o:=fun hm=>by
      obtain⟨i,hi,he⟩:=List.getElem_of_mem hm;have:=h1 i (List.mem_range.2 hi);rw[hget i hi,getElem!_pos o i hi,he]at this;simp at this
    simp[h3]
theorem CS0 (s o:Str):hasB s o=Ae6 s o:=by
  unfold hasB Ae6;congr 1
  funext c
  rw[idxB_neg]
  cases Ar9 c<;>simp
theorem AK7 (s:Str):z7 s=y7 s:=by unfold z7 y7;rw[CS0]
theorem N9 :∀a:Str,Op.bytesLess a a=false
  |[]=>rfl
  |a::x=>by simp[Op.bytesLess,N9 x]
theorem n3 :∀a b:Str,Op.bytesLess a b= !(Op.bytesLess b a||b==a)
  |[],[]=>rfl
  |[],_::_=>rfl
  |_::_,[]=>rfl
  | a ::x,b::y=>by
    have ih:=n3 x y;simp only[Op.bytesLess];by_cases hab:a=b
    · subst hab
      simp[ih]
    · have h1:(a==b)=false:=by simpa using hab
      have h2:(b==a)=false:=by simpa using fun h=>hab h.symm
      have h3:(b::y==a::x)=false:=by simp[h2]
      simp only[h1,h2,h3,Bool.false_and,Bool.or_false];rw[AI1];simp only[H6,n5,AB8,UInt8.not_lt];constructor
      ·exact UInt8.le_of_lt
      ·exact fun h=>UInt8.lt_of_le_of_ne h hab
def adj {α:Type}(p:α→α→Bool):List α→Bool
  |[]=>true
  |[_]=>true
  |x::y::l=>p x y&&adj p (y::l)
theorem Cp2 {α:Type}{l:List α}{k:Nat}{x y:α}(hy:l[k]? =some y)(hx:l[k+1]? =some x):l.drop k=y::x::l.drop (k+2):=by
  rw[Go.AV.J8 hy,Go.AV.J8 hx]
theorem Am8 {α:Type}{p:α→α→Bool}{l:List α}{i:Nat}{x y:α}(hx:l[i]? =some x)(hy:l[i-1]? =some y)(h:0<i→p y x=true):adj p (l.drop (i-1))=adj p (l.drop (i+1-1)):=by
  cases i with
  |zero=>rfl
  | succ k=>
    simp only[Nat.add_sub_cancel]at*;rw[Cp2 hy hx,Go.AV.J8 hx,adj,h qz7,Bool.true_and]
theorem Am9 {α:Type}{p:α→α→Bool}{l:List α}{i:Nat}{x y:α}(hx:l[i]? =some x)(hy:l[i-1]? =some y)(h0:0<i)(h:p y x=false):adj p (l.drop (i-1))=false:=by
  cases i with
  |zero=>omega
  | succ k=>
    simp only[Nat.add_sub_cancel]at*;rw[Cp2 hy hx,adj,h,Bool.false_and]
theorem Aw2 {α:Type}{p:α→α→Bool}{l:List α}{i:Nat}(h:l.length≤i):adj p (l.drop (i-1))=true:=by
  have hl:(l.drop (i-1)).length≤1:=by rw[AB9];omega
  match hd:l.drop (i-1),hl with
  |[],_=>rfl
  |[x],_=>rfl
def Aa2 (t:Int):Bool:=within t 1 100000
def AL7 (val:Str)(gone:Bool):Bool:=AV3 val&& !(gone&&val !=[])
def AU1 (s:Str):Bool:=decide ((s.length:Int)≤24)&&Ae6 s [46,45,44,95]
def Aq3 (key val:Str)(gone:Bool):Bool:=y7 key&&AU1 val&&(!gone||val==[])
def AR2 (x y:Int):Int:=if x<y then -1 else if y<x then 1 else 0
def BJ8 (x y:Str):Int:=if Op.bytesLess x y then -1 else if Op.bytesLess y x then 1 else 0
theorem Bg6 (s:Str):AV3 s=AU1 s:=by unfold AV3 AU1;rw[CS0]
theorem BG9 (s:Str)(g:Bool):AL7 s g=(AU1 s&&(!g||s==[])):=by
  unfold AL7;rw[Bg6];cases g<;>simp[bne]
theorem Au9 {α:Type}{p:α→Bool}{l:List α}{i:Nat}{x:α}(hx:l[i]? =some x)(h:p x=true):(l.drop i).all p=(l.drop (i+1)).all p:=by
  rw[Go.AV.J8 hx,AA7,h,Bool.true_and]
theorem Av0 {α:Type}{p:α→Bool}{l:List α}{i:Nat}{x:α}(hx:l[i]? =some x)(h:p x=false):(l.drop i).all p=false:=by
  rw[Go.AV.J8 hx,AA7,h,Bool.false_and]
theorem BD1 {α:Type}{p:α→Bool}{l:List α}{i:Nat}(h:l.length≤i):(l.drop i).all p=true:=by
  rw[r9 h];rfl
theorem AS5 {α β:Type}{f:α→β}{l:List α}{i:Nat}{x:α}(h:l[i]? =some x):(l.take i).map f++[f x]=(l.take (i+1)).map f:=by
  rw[X3,h];simp
def u4 (l:List Str):Bool:=l.all z7&&adj Op.bytesLess l
def O8 (l:List B1):List Str:=l.map B1.Key
def AI3 (l:List B1):Bool:=decide ((l.length:Int)≤24)&&u4 (O8 l)&& !(l.any fun w=> !AL7 w.Val w.Gone)
def X6 (a b:B1):Bool:=Op.bytesLess a.Key b.Key
def AQ1 (w:B1):Bool:=Aq3 w.Key w.Val w.Gone
def Ac1 (l:List B1):Bool:=(l.all AQ1&&adj X6 l)&&decide ((l.length:Int)≤24)
theorem Bv7 {α β:Type}(f:α→β)(p:β→β→Bool):∀l:List α,adj p (l.map f)=adj (fun a b=>p (f a) (f b)) l
  |[]=>rfl
  |[_]=>rfl
  | x::y::l=>by
    have:=Bv7 f p (y::l);simp only[m4,adj]at*;rw[this]
theorem At3 (l:List B1):AI3 l=Ac1 l:=by
  unfold AI3 Ac1 u4 O8;rw[Bv7,List.all_map,List.not_any_eq_all_not];have h2:l.all AQ1=((l.all (z7∘B1.Key))&&l.all fun w=>AU1 w.Val&&(!w.Gone||w.Val==[])):=by
    induction l with
    |nil=>rfl
    | cons w l ih=>
      simp only[AA7,ih,AQ1,Aq3,Function.comp,AK7,Bool.and_assoc]
      cases y7 w.Key<;>cases AU1 w.Val<;>cases (!w.Gone||w.Val==[])<;>simp only[Bool.true_and,Bool.and_true,Bool.false_and,Bool.and_false]
  have h1:(l.all fun w=> !!AL7 w.Val w.Gone)=l.all fun w=>AU1 w.Val&&(!w.Gone||w.Val==[]):=by
    congr 1;funext w;rw[Bool.not_not,BG9]
  rw[h1,h2];show _=_
  have h3:adj (fun a b=>Op.bytesLess a.Key b.Key) l=adj X6 l:=rfl;rw[h3]
  cases l.all (z7∘B1.Key)<;>cases adj X6 l<;>cases decide ((l.length:Int)≤24)<;>cases (l.all fun w=>AU1 w.Val&&(!w.Gone||w.Val==[]))<;>rfl
def AS7 (n:Int):Bool:=within n 1 60
def Bj9 (r:N5):Bool:=((r.Lead==0)&&((r.Reads.length:Int)==0))&&((r.Writes.length:Int)==0)
def BI0 (r:N5):Bool:=(((((((AS7 r.Txn&&Aa2 r.Time)&&within r.Lead 0 3)&&decide ((r.Reads.length:Int)≤8))&&u4 r.Reads)&&decide ((r.Writes.length:Int)≤8))&&AI3 r.Writes)&&decide (0<(r.Reads.length:Int)+(r.Writes.length:Int)))&& !r.Yes
def Bw9 (r:N5):Bool:=(Bj9 r&&AS7 r.Txn)&&((r.Yes&&Aa2 r.Time)||(!r.Yes&&(r.Time==0)))
def Cm1 (r:N5):Bool:=((Bj9 r&&(r.Txn==0))&&Aa2 r.Time)&& !r.Yes
def T8 (r:N5):Bool:=if r.Kind=1 then BI0 r else if r.Kind=2∨r.Kind=3 then Bw9 r else if r.Kind=4 then Cm1 r else false
def Bd4 (l:List Str):Bool:=(l.all y7&&adj Op.bytesLess l)&&decide ((l.length:Int)≤8)
def BL7 (r:N5):Bool:=(r.Kind !=1)&&((r.Lead !=0)||decide (0<(r.Reads.length:Int)+(r.Writes.length:Int)))
def l4G1 (r:N5):Bool:=((((((within r.Txn 1 60&&within r.Time 1 100000)&&within r.Lead 0 3)&&Bd4 r.Reads)&&Ac1 r.Writes)&&within (r.Writes.length:Int) 0 8)&&decide (0<(r.Reads.length:Int)+(r.Writes.length:Int)))&& !r.Yes
def l4G2 (r:N5):Bool:=within r.Txn 1 60&&((r.Yes&&within r.Time 1 100000)||(!r.Yes&&(r.Time==0)))
def l4G4 (r:N5):Bool:=(((r.Kind==4)&&(r.Txn==0))&&within r.Time 1 100000)&& !r.Yes
def BJ9 (r:N5):Bool:=if BL7 r=true then false else if r.Kind=1 then l4G1 r else if r.Kind=2∨r.Kind=3 then l4G2 r else l4G4 r
theorem bare_odd {r:N5}(h:r.Kind≠1):Bj9 r= !BL7 r:=by
  have hk:(r.Kind !=1)=true:=by simpa using h
  unfold Bj9 BL7;rw[hk,Bool.true_and,AI1];simp only[F0,m6,n5,v9,bne_eq_false_iff_eq,AB8];omega
theorem keys_eq (l:List Str):(decide ((l.length:Int)≤8)&&u4 l)=Bd4 l:=by
  unfold u4 Bd4;rw[show l.all z7=l.all y7 by congr 1;funext s;rw[AK7]];rw[Bool.and_comm]
theorem Ay4 (r:N5):T8 r=BJ9 r:=by
  unfold T8 BJ9;by_cases h1:r.Kind=1
  · have ho:BL7 r=false:=by unfold BL7;rw[h1];rfl
    rw[D9 h1,ho,D0 E5,D9 h1];unfold BI0 l4G1;rw[←keys_eq,←At3];have hw:within (r.Writes.length:Int) 0 8=decide ((r.Writes.length:Int)≤8):=by unfold within;simp
    rw[hw];unfold AS7 Aa2
    cases within r.Txn 1 60<;>cases within r.Time 1 100000<;>cases within r.Lead 0 3<;>cases decide ((r.Reads.length:Int)≤8)<;>cases u4 r.Reads<;>cases decide ((r.Writes.length:Int)≤8)<;>cases AI3 r.Writes<;>simp
  · have hb:=bare_odd h1
    rw[D0 h1,D0 h1];by_cases h2:r.Kind=2∨r.Kind=3
    · rw[D9 h2,D9 h2]
      unfold Bw9 l4G2;rw[hb]
      cases BL7 r<;>simp[AS7,Aa2]
    · rw[D0 h2,D0 h2]
      unfold l4G4;by_cases h4:r.Kind=4
      · rw[D9 h4]
        unfold Cm1;rw[hb,h4]
        cases BL7 r<;>simp[Aa2]
      · rw[D0 h4]
        have e4:(r.Kind==4)=false:=by simpa using h4
        rw[e4];cases BL7 r<;>simp
structure GoodR (r:N5):Prop where
  kind:1≤r.Kind∧r.Kind≤4
  txn:0≤r.Txn∧r.Txn≤60
  time:0≤r.Time∧r.Time≤100000
  lead:0≤r.Lead∧r.Lead≤3
  reads:r.Reads.length≤8∧∀s∈r.Reads,y7 s=true
  writes:r.Writes.length≤8∧∀w∈r.Writes,y7 w.Key=true∧AU1 w.Val=true∧(w.Gone=true→w.Val=[])
theorem CZ3 {r:N5}(h:Bj9 r=true):r.Lead=0∧r.Reads=[]∧r.Writes=[]:=by
  unfold Bj9 at h;simp only[F0,m6]at h;exact⟨h.1.1,Ak2 qz7,Ak2 qz7⟩
theorem goodR {r:N5} (h:T8 r=true):GoodR r:=by
  unfold T8 at h;split at h
  · rename_i hk
    unfold BI0 AS7 Aa2 within at h
    simp only[F0,H6]at h;obtain⟨⟨⟨⟨⟨⟨⟨⟨h1,h2⟩,h3⟩,h4⟩,h5⟩,h6⟩,h7⟩,_⟩,_⟩:=h;rw[At3]at h7;unfold Ac1 at h7;unfold u4 at h5;simp only[F0,V7]at h5 h7;refine⟨by omega,by omega,by omega,by omega,⟨by omega,fun s hs=>by rw[←AK7];exact h5.1 s hs⟩,⟨by omega,fun w hw=> ?_⟩⟩;have:=h7.1.1 w hw;unfold AQ1 Aq3 at this;simp only[F0,AC0,n5]at this;exact⟨this.1.1,this.1.2,fun e=>by rcases this.2 with g|g;rw[e]at g;cases g;simpa using g⟩
  · split at h
    · rename_i hk
      unfold Bw9 AS7 Aa2 within at h
      simp only[F0,AC0,H6,m6,n5]at h;obtain⟨⟨h1,h2⟩,h3⟩:=h;obtain⟨l1,l2,l3⟩:=CZ3 h1;refine⟨by omega,by omega,by omega,by omega,by rw[l2];exact⟨E4 _,fun s hs=>by cases hs⟩,by rw[l3];exact⟨E4 _,fun s hs=>by cases hs⟩⟩
    · split at h
      · rename_i hk
        unfold Cm1 Aa2 within at h
        simp only[F0,H6,m6,n5]at h;obtain⟨⟨⟨h1,h2⟩,h3⟩,_⟩:=h;obtain⟨l1,l2,l3⟩:=CZ3 h1;refine⟨by omega,by omega,by omega,by omega,by rw[l2];exact⟨E4 _,fun s hs=>by cases hs⟩,by rw[l3];exact⟨E4 _,fun s hs=>by cases hs⟩⟩
      ·cases h
theorem CI0 {s:Str}(h:y7 s=true):s.length≤12:=by
  unfold y7 within at h
  simp only[F0,H6]at h;have:=h.1;omega
theorem DO4 {s:Str}(h:AU1 s=true):s.length≤24:=by
  unfold AU1 at h;simp only[F0,H6]at h;have:=h.1;omega
set_option linter.unusedSectionVars false
section
variable {α:Type} [Inhabited α]
structure Swo (lt:α→α→Bool):Prop where
  asym:∀a b,lt a b=true→lt b a=false
  ntr:∀a b c,lt b a=false→lt c b=false→lt c a=false
def InR (l:List α)(a b:Nat)(x:α):Prop:=∃i,a≤i∧i<b∧l[i]? =some x
structure Shuf (l l':List α)(a b:Nat):Prop where
  len:l'.length=l.length
  perm:l'.Perm l
  out:∀i,i<a∨b≤i→l'[i]? =l[i]?
  inn:∀x,InR l' a b x→InR l a b x
end
section
variable {α:Type} [Inhabited α] [DecidableEq α]
def AK1 (l:List α):Nat→List α
  |0=>[]
  |n+1=>if n≠0∧l[n]? =l[n-1]? then AK1 l n else AK1 l n++(l[n]?).toList
def cmpL (l:List α):List α:=AK1 l l.length
theorem Cp3 (l:List α):∀n,(AK1 l n).length≤n
  |0=>K9 _
  | n +1=>by
    have h:=Cp3 l n;show (if n≠0∧l[n]? =l[n-1]? then AK1 l n else AK1 l n++(l[n]?).toList).length≤n+1
    split
    ·omega
    · rw[I2]
      cases l[n]? <;>simp<;>omega
theorem Bo4 {l:List α}{n:Nat}(h0:n≠0)(h:l[n]? =l[n-1]?):AK1 l (n+1)=AK1 l n:=D9 ⟨h0,h⟩
theorem CZ4 {l:List α}{n:Nat}{x:α}(hx:l[n]? =some x)(h:n=0∨l[n]? ≠l[n-1]?):AK1 l (n+1)=AK1 l n++[x]:=by
  show (if n≠0∧l[n]? =l[n-1]? then AK1 l n else AK1 l n++(l[n]?).toList)=_
  rw[D0 (fun e=>h.elim (fun f=>e.1 f) fun f=>f e.2),hx];rfl
theorem An0 {l:List α}:∀{n:Nat},n≤l.length→(∀i,1≤i→i<n→l[i]? ≠l[i-1]?)→AK1 l n=l.take n
  |0,_,_=>by rw[List.take_zero];rfl
  | n+1,hn,h=>by
    have hx:l[n]? =some l[n]:=Q5 qz7;rw[CZ4 hx (by by_cases e:n=0;exact .inl e;exact .inr (h n qz7 qz7)),An0 qz7 (fun i h1 h2=>h i h1 qz7),X3,hx];rfl
theorem Ay5 {m l:List α}{i j:Nat}{x:α}(h:m.drop i=l.drop i)(hx:l[j]? =some x)(hij:i≤j):m[j]? =some x:=by
  have h1:=F2 (fun z:List α=>z[j-i]?) h;simp only[AS1,show i+(j-i)=j by omega]at h1;rw[h1,hx]
theorem Cp4 {l m:List α}{k i j:Nat}{x y:α}(h:1≤j∧k+j≤l.length∧i+1≤k+j∧m.length=l.length∧m.take i=AK1 l (k+j)∧m.drop (k+j-1)=l.drop (k+j-1))(hlt:k+j<l.length)(hx:l[k+j]? =some x)(hy:l[k+j-1]? =some y)(hn:x≠y):
    1≤j+1∧k+(j+1)≤l.length∧i+1+1≤k+(j+1)∧(m.set i x).length=l.length∧(m.set i x).take (i+1)=AK1 l (k+(j+1))∧(m.set i x).drop (k+(j+1)-1)=l.drop (k+(j+1)-1):=by
  obtain⟨h1,h2,h3,h4,h5,h6⟩:=h;refine⟨by omega,by omega,by omega,by rw[a9,h4],?_,?_⟩
  ·rw[X3,Ac3 qz7,List.take_set_of_le (K9 _),h5,←Nat.add_assoc,CZ4 hx (.inr (by rw[hx,hy];intro e;injection e with e;exact hn e))];rfl
  ·rw[List.drop_set_of_lt qz7,show k+(j+1)-1=k+j-1+1 by omega,←List.drop_drop,h6,List.drop_drop]
theorem Cp5 {l m:List α}{k i j:Nat}{x y:α}(h:1≤j∧k+j≤l.length∧i+1≤k+j∧m.length=l.length∧m.take i=AK1 l (k+j)∧m.drop (k+j-1)=l.drop (k+j-1))(hlt:k+j<l.length)(hx:l[k+j]? =some x)(hy:l[k+j-1]? =some y)(hn:x=y):
    1≤j+1∧k+(j+1)≤l.length∧i+1≤k+(j+1)∧m.length=l.length∧m.take i=AK1 l (k+(j+1))∧m.drop (k+(j+1)-1)=l.drop (k+(j+1)-1):=by
  obtain⟨h1,h2,h3,h4,h5,h6⟩:=h;refine⟨by omega,by omega,by omega,h4,?_,?_⟩
  ·rw[h5,←Nat.add_assoc,Bo4 qz7 (by rw[hx,hy,hn])]
  ·rw[show k+(j+1)-1=k+j-1+1 by omega,←List.drop_drop,h6,List.drop_drop]
theorem DJ8 {l m:List α}{f:α→List AV}{k i j q:Nat}{z:List AV}(h:m.take i=AK1 l (k+j))(hk:k+j=l.length)(hi:i≤m.length):(((m.map f).take (i:Int).toNat++List.replicate q z).take (i:Int).toNat)=(cmpL l).map f:=by
  unfold cmpL;rw[←hk,←h,o5,List.map_take,List.take_left' (by rw[H0,A8];omega)]
end
theorem U9 :∀{a b c:Str},Op.bytesLess a b=true→Op.bytesLess b c=true→Op.bytesLess a c=true
  | [],b,c,h1,h2=>by
    cases c with
    |nil=>cases b<;>simp[Op.bytesLess]at h2
    |cons z c=>rfl
  |x::a,[],_,h1,_=>by simp[Op.bytesLess]at h1
  |x::a,y::b,[],_,h2=>by simp[Op.bytesLess]at h2
  | x ::a,y::b,z::c,h1,h2=>by
    simp only[Op.bytesLess,AC0,F0,H6,m6]at h1 h2⊢;rcases h1 with h1|⟨h1,h1'⟩
    · rcases h2 with h2|⟨h2,_⟩
      ·exact .inl (UInt8.lt_trans h1 h2)
      ·subst h2;exact .inl h1
    · subst h1
      rcases h2 with h2|⟨h2,h2'⟩
      ·exact .inl h2
      ·exact .inr ⟨h2,U9 h1' h2'⟩
theorem Ap2 (a b:Str):BJ8 a b<0↔Op.bytesLess a b=true:=by
  unfold BJ8
  cases h1:Op.bytesLess a b
  ·cases h2:Op.bytesLess b a<;>simp
  ·simp
theorem BY6 (a b:Str):BJ8 a b=0↔a=b:=by
  unfold BJ8;have h3:=n3 a b
  cases h1:Op.bytesLess a b
  · cases h2:Op.bytesLess b a
    ·rw[h1,h2]at h3;simp at h3;simp[h3]
    ·simp;intro h;subst h;rw[h1]at h2;cases h2
  ·simp;intro h;subst h;rw[N9]at h1;cases h1
theorem Bv8 {α:Type}{p:α→α→Bool}(tr:∀a b c,p a b=true→p b c=true→p a c=true):∀{l:List α} {x:α},adj p (x::l)=true→∀y∈l,p x y=true
  |[],_,_,y,hy=>by simp at hy
  | z::l,x,h,y,hy=>by
    simp only[adj,F0]at h;rcases T6.1 hy with rfl|hy
    ·exact h.1
    ·exact tr _ _ _ h.1 (Bv8 tr h.2 y hy)
theorem Bg7 {α:Type}{p:α→α→Bool}{l:List α}{x:α}(h:adj p (x::l)=true):adj p l=true:=by
  cases l with
  |nil=>rfl
  |cons y l=>simp only[adj,F0]at h;exact h.2
theorem Ad6 {α:Type}{p:α→α→Bool}(tr:∀a b c,p a b=true→p b c=true→p a c=true):∀{l:List α},adj p l=true→∀{i j:Nat} {x y:α},i<j→l[i]? =some x→l[j]? =some y→p x y=true
  |[],_,i,j,x,y,_,hx,_=>by simp at hx
  | z::l,h,0,j+1,x,y,_,hx,hy=>by
    simp at hx;subst hx;exact Bv8 tr h y (C3 BM2)
  |z::l,h,i+1,j+1,x,y,hij,hx,hy=>Ad6 tr (Bg7 h) (by omega:i<j) AT0 BM2
theorem CS1 {α:Type} (f:α→Int) (l:List α) (down:∀(i j:Nat) (x y:α),i<j→l[i]? =some x→l[j]? =some y→f y<0→f x<0):∀(d i j:Nat),j-i=d→i≤j→j≤l.length→
    (∀k x,k<i→l[k]? =some x→f x<0)→(∀x,l[j]? =some x→¬f x<0)→(∀k x,k<bs f l i j→l[k]? =some x→f x<0)∧(∀x,l[bs f l i j]? =some x→¬f x<0):=by
  intro d;induction d using Nat.strongRecOn with
  | _ d ih=>
    intro i j hd hij hjl hlo hhi;by_cases h:i<j
    · obtain⟨x,hx⟩:=Go.AV.B2 (show (i+j) / 2<l.length by omega)
      by_cases hf:f x<0
      · rw[bs_lo h hx hf]
        refine ih (j-((i+j) / 2+1)) qz7 _ _ rfl qz7 hjl (fun k y hk hy=> ?_) hhi;rcases Nat.lt_or_ge k ((i+j) / 2)with h1|h1
        ·exact down k _ y x h1 hy hx hf
        · have:k=(i+j) / 2:=by omega
          subst this;rw[hx]at hy;injection hy with hy;subst hy;exact hf
      · rw[bs_hi h hx hf]
        exact ih ((i+j) / 2-i) qz7 _ _ rfl qz7 qz7 hlo (fun y hy=>by rw[hx]at hy;injection hy with hy;subst hy;exact hf)
    · rw[Cp1 h]
      have:i=j:=by omega
      subst this;exact⟨hlo,hhi⟩
def Bt7 (k:Str)(w:B1):Int:=BJ8 w.Key k
def Ae7 (l:List B1)(k:Str):Nat:=bs (Bt7 k) l 0 l.length
def BE6 (l:List B1)(k:Str):Bool:=Ao3 (Bt7 k) l (Ae7 l k)
theorem AP7 (a b c:B1)(h:X6 a b=true)(k:X6 b c=true):X6 a c=true:=U9 h k
theorem CZ5 {l:List B1}(h:adj X6 l=true)(k:Str):(∀i x,i<Ae7 l k→l[i]? =some x→Op.bytesLess x.Key k=true)∧(∀x,l[Ae7 l k]? =some x→Op.bytesLess x.Key k=false):=by
  have:=CS1 (Bt7 k) l (fun i j x y hij hx hy hf=>by
    unfold Bt7 at*;rw[Ap2]at*;exact U9 (Ad6 AP7 h hij hx hy) hf) l.length 0 l.length rfl (E4 _) (K9 _) (fun k x hk=>by omega) (fun x hx=>by rw[AZ8 (K9 _)]at hx;cases hx)
  refine⟨fun i x hi hx=>(Ap2 _ _).1 (this.1 i x hi hx),fun x hx=> ?_⟩;have h2:=this.2 x hx;unfold Bt7 at h2;rw[Ap2]at h2;simpa using h2
def findW (l:List B1)(k:Str):Option B1:=l.find? fun w=>w.Key==k
theorem findW_eq {l:List B1} (h:adj X6 l=true) (k:Str):findW l k=if BE6 l k=true then l[Ae7 l k]? else none:=by
  obtain⟨h1,h2⟩:=CZ5 h k;have hat:∀w∈l,w.Key=k→l[Ae7 l k]? =some w:=fun w hw he=>by
    obtain⟨i,hi⟩:=i5 hw;rcases Nat.lt_trichotomy i (Ae7 l k)with hlt|heq|hgt
    · have:=h1 i w hlt hi
      rw[he,N9]at this;cases this
    ·rw[←heq];exact hi
    · obtain⟨y,hy⟩:=Go.AV.B2 (show Ae7 l k<l.length by have:=(G1.1 hi).1;omega)
      have h3:=h2 y hy;have h4:=Ad6 AP7 h hgt hy hi;unfold X6 at h4;rw[he,h3]at h4;cases h4
  unfold BE6 Ao3 findW
  cases hp:l[Ae7 l k]? with
  | none=>
    simp only[Bool.false_eq_true,if_false];rw[List.find?_eq_none];intro w hw;simp only[m6];intro he;have:=hat w hw he;rw[hp]at this;cases this
  | some y=>
    simp only[Bt7,m6,BY6];by_cases hk:y.Key=k
    · rw[D9 hk]
      cases hf:l.find? fun w=>w.Key==k with
      | none=>
        have:=List.find?_eq_none.1 hf y (C3 hp);simp[hk]at this
      | some w=>
        have h5:=List.find?_some hf;have h6:=hat w (Ac4 hf) (by simpa using h5);rw[hp]at h6;exact h6.symm
    · rw[D0 hk,List.find?_eq_none]
      intro w hw;simp only[m6];intro he;have:=hat w hw he;rw[hp]at this;injection this with this;subst this;exact hk he
def ins :List B1→B1→List B1
  |[],w=>[w]
  |x::l,w=>if Op.bytesLess x.Key w.Key=true then x::ins l w else if x.Key=w.Key then w::l else w::x::l
theorem Bo5 {w:B1}:∀{l:List B1} {p:Nat},p≤l.length→(∀i x,i<p→l[i]? =some x→Op.bytesLess x.Key w.Key=true)→(∀x,l[p]? =some x→Op.bytesLess x.Key w.Key=false)→
    ins l w=if (∃x,l[p]? =some x∧x.Key=w.Key)then l.set p w else l.take p++w::l.drop p
  |[],p,hp,_,_=>by simp at hp;subst hp;simp[ins]
  | x::l,0,_,_,h2=>by
    have h:=h2 x rfl;unfold ins;rw[h];by_cases hk:x.Key=w.Key
    ·rw[D0 E5,D9 hk,D9 ⟨x,rfl,hk⟩];rfl
    ·rw[D0 E5,D0 hk,D0 (fun ⟨y,hy,hyk⟩=>by simp at hy;subst hy;exact hk hyk)];rfl
  | x::l,p+1,hp,h1,h2=>by
    have h:=h1 0 x qz7 rfl;unfold ins;rw[D9 h,Bo5 (l:=l) (p:=p) (by simpa using hp) (fun i y hi hy=>h1 (i+1) y qz7 BM2) (fun y hy=>h2 y BM2)];simp only[BV2,BF9,BG1,BM5];split<;>simp
def CF5 (l:List B1)(w:B1):List B1:=if BE6 l w.Key=true then l.set (Ae7 l w.Key) w else l.take (Ae7 l w.Key)++w::l.drop (Ae7 l w.Key)
theorem DJ9 {p:Prop} (h:p:=by
  intro d;induction d using Nat.strongRecOn with
  | _ d ih=>
    intro i j hd hij hjl;by_cases h:i<j
    · obtain⟨x,hx⟩:=Go.AV.B2 (show (i+j) / 2<l.length by omega)
      by_cases hf:f x<0
      · rw[bs_lo h hx hf]
        exact ih (j-((i+j) / 2+1)) qz7 _ _ rfl qz7 hjl
      · rw[bs_hi h hx hf]
        exact L7 (ih ((i+j) / 2-i) qz7 _ _ rfl qz7 qz7) qz7
    ·rw[Cp1 h];exact hij):p:=h
theorem bs_le {α:Type}(f:α→Int)(l:List α):∀(d i j:Nat),j-i=d→i≤j→j≤l.length→bs f l i j≤j:=DJ9
theorem DK0 (l:List B1)(k:Str):Ae7 l k≤l.length:=bs_le _ _ _ _ _ rfl (E4 _) (K9 _)
theorem BR6 {l:List B1}{k:Str}:BE6 l k=true↔∃x,l[Ae7 l k]? =some x∧x.Key=k:=by
  unfold BE6 Ao3
  cases h:l[Ae7 l k]? with
  |none=>simp
  |some x=>simp[Bt7,BY6]
theorem putW_ins {l:List B1}(h:adj X6 l=true)(w:B1):CF5 l w=ins l w:=by
  obtain⟨h1,h2⟩:=CZ5 h w.Key;rw[Bo5 (DK0 l w.Key) h1 h2];unfold CF5;by_cases hw:BE6 l w.Key=true
  ·rw[D9 hw,D9 (BR6.1 hw)]
  ·rw[D0 hw,D0 (fun h=>hw (BR6.2 h))]
def AN0 (l:List B1) (k:Str):Nat→Nat
  |0=>0
  | n+1=>match l[n]? with
    |some x=>if Op.bytesLess k x.Key=true then AN0 l k n else n+1
    |none=>n+1
def CX1 (l:List B1) (k:Str):Nat→Bool
  |0=>false
  | n+1=>match l[n]? with
    |some x=>x.Key==k
    |none=>false
def Bk0 (l:List B1)(w:B1):List B1:=
  if CX1 l w.Key (AN0 l w.Key l.length)=true then l.set (AN0 l w.Key l.length-1) w else l.take (AN0 l w.Key l.length)++w::l.drop (AN0 l w.Key l.length)
theorem Cp6 (l:List B1)(k:Str):∀n,AN0 l k n≤n
  |0=>K9 _
  | n +1=>by
    unfold AN0;split
    · split
      ·exact Nat.le_succ_of_le (Cp6 l k n)
      ·exact K9 _
    ·exact K9 _
theorem CI1 (l:List B1) (k:Str):∀n,n≤l.length→(∀i x,AN0 l k n≤i→i<n→l[i]? =some x→Op.bytesLess k x.Key=true)∧(∀x,0<AN0 l k n→l[AN0 l k n-1]? =some x→Op.bytesLess k x.Key=false)
  |0,_=>⟨fun i x h1 h2=>by omega,fun x h=>by simp[AN0]at h⟩
  | n + 1,hn=>by
    obtain⟨x,hx⟩:=Go.AV.B2 (show n<l.length by omega);have ih:=CI1 l k n qz7;unfold AN0;simp only[hx];by_cases hb:Op.bytesLess k x.Key=true
    · rw[D9 hb]
      refine⟨fun i y h1 h2 hy=> ?_,ih.2⟩;rcases Nat.lt_or_ge i n with h3|h3
      ·exact ih.1 i y h1 h3 hy
      · have:i=n:=by omega
        subst this;rw[hx]at hy;injection hy with hy;subst hy;exact hb
    · rw[D0 hb]
      refine⟨fun i y h1 h2 hy=>by omega,fun y _ hy=> ?_⟩;rw[Nat.add_sub_cancel,hx]at hy;injection hy with hy;subst hy
      simpa using hb
theorem DY4 {l:List B1} (h:adj X6 l=true) (w:B1):Bk0 l w=ins l w:=by
  obtain⟨h1,h2⟩:=CI1 l w.Key l.length (K9 _);have hle:=Cp6 l w.Key l.length;unfold Bk0;generalize AN0 l w.Key l.length=k at*
  cases k with
  | zero=>
    rw[D0 (by simp[CX1]),Bo5 (l:=l) (p:=0) (E4 _) (fun i x h=>by omega) (fun x hx=>by
      have h3:=h1 0 x (K9 _) (G1.1 hx).1 hx
      cases hb:Op.bytesLess x.Key w.Key with
      |false=>rfl
      |true=>have:=U9 h3 hb;rw[N9]at this;cases this)]
    rw[D0];intro ⟨x,hx,hk⟩;have h3:=h1 0 x (K9 _) (G1.1 hx).1 hx;rw[hk,N9]at h3;cases h3
  | succ n=>
    obtain⟨x,hx⟩:=Go.AV.B2 (show n<l.length by omega);have h3:=h2 x qz7 AT0;have htri:=n3 x.Key w.Key;by_cases hk:x.Key=w.Key
    · rw[D9 (by simp[CX1,hx,hk]),Nat.add_sub_cancel]
      rw[Bo5 (l:=l) (p:=n) qz7 (fun i y hi hy=>by have:=Ad6 AP7 h hi hy hx;unfold X6 at this;rw[hk]at this;exact this) (fun y hy=>by rw[hx]at hy;injection hy with hy;subst hy;rw[hk,N9])];rw[D9 ⟨x,hx,hk⟩]
    · have hlt:Op.bytesLess x.Key w.Key=true:=by rw[h3]at htri;cases hb:Op.bytesLess x.Key w.Key with|true=>rfl|false=>(rw[hb]at htri;simp at htri;exact absurd htri.symm hk)
      rw[D0 (by simp[CX1,hx,hk])];have hno:∀y,l[n+1]? =some y→Op.bytesLess w.Key y.Key=true:=fun y hy=>h1 (n+1) y (K9 _) (G1.1 hy).1 hy;rw[Bo5 (l:=l) (p:=n+1) hle (fun i y hi hy=>by
        rcases Nat.lt_or_ge i n with h4|h4
        · have:=Ad6 AP7 h h4 hy hx
          exact U9 this hlt
        · have:i=n:=by omega
          subst this;rw[hx]at hy;injection hy with hy;subst hy;exact hlt) (fun y hy=>by
        cases hb:Op.bytesLess y.Key w.Key with
        |false=>rfl
        |true=>have:=U9 (hno y hy) hb;rw[N9]at this;cases this)]
      rw[D0];intro ⟨y,hy,hyk⟩;have:=hno y hy;rw[hyk,N9]at this;cases this
theorem An1 {α:Type}{p:α→α→Bool}(tr:∀a b c,p a b=true→p b c=true→p a c=true):∀{l:List α},adj p l=true↔l.Pairwise fun a b=>p a b=true
  |[]=>by simp[adj]
  |[x]=>by simp[adj]
  | x ::y::l=>by
    rw[adj,F0,An1 tr,AD9 (a:=x)];constructor
    · intro ⟨h1,h2⟩
      refine⟨fun z hz=> ?_,h2⟩;rcases T6.1 hz with rfl|hz
      ·exact h1
      ·exact tr _ _ _ h1 (List.rel_of_pairwise_cons h2 hz)
    · intro ⟨h1,h2⟩
      exact⟨h1 y n4,h2⟩
theorem Ad7 {w x:B1}:∀{l:List B1},x∈ins l w→x=w∨x∈l
  |[],h=>by simp[ins]at h;exact .inl h
  | y ::l,h=>by
    unfold ins at h;split at h
    · rcases T6.1 h with rfl|h
      ·exact .inr n4
      ·exact(Ad7 h).imp id (U5 _)
    · split at h
      · rcases T6.1 h with rfl|h
        ·exact .inl rfl
        ·exact .inr (U5 _ h)
      · rcases T6.1 h with rfl|h
        ·exact .inl rfl
        ·exact .inr h
theorem Bv9 {w:B1}:∀{l:List B1},adj X6 l=true→adj X6 (ins l w)=true
  |[],_=>rfl
  | y ::l,h=>by
    have hp:=(An1 AP7).1 h;refine(An1 AP7).2 ?_;unfold ins;split
    · rename_i hlt
      have ih:=(An1 AP7).1 (Bv9 (w:=w) (Bg7 h));refine AD9.2 ⟨fun z hz=> ?_,ih⟩;rcases Ad7 hz with rfl|hz
      ·exact hlt
      ·exact List.rel_of_pairwise_cons hp hz
    · rename_i hnlt
      split
      · rename_i hk
        refine AD9.2 ⟨fun z hz=> ?_,(AD9.1 hp).2⟩;have:=List.rel_of_pairwise_cons hp hz;unfold X6 at this⊢;rw[←hk];exact this
      · rename_i hk
        have hgt:Op.bytesLess w.Key y.Key=true:=by
          have:=n3 y.Key w.Key
          cases hb:Op.bytesLess w.Key y.Key with
          |true=>rfl
          |false=>rw[hb]at this;simp at hnlt;rw[hnlt]at this;simp at this;exact absurd this.symm hk
        refine AD9.2 ⟨fun z hz=> ?_,hp⟩;rcases T6.1 hz with rfl|hz
        ·exact hgt
        ·exact U9 hgt (List.rel_of_pairwise_cons hp hz)
theorem Bw0 {w:B1}:∀{l:List B1},l.length≤(ins l w).length∧(ins l w).length≤l.length+1
  |[]=>by simp[ins]
  | y::l=>by
    unfold ins;have ih:=Bw0 (w:=w) (l:=l);split
    ·simp;omega
    ·split<;>simp
theorem Ba7 (a b:Str):(!(Op.bytesLess a b||a==b))=Op.bytesLess b a:=by
  have h:=n3 a b
  cases h1:Op.bytesLess a b
  · cases h2:Op.bytesLess b a
    ·rw[h1,h2]at h;simp at h;simp[h]
    ·simp;intro hc;subst hc;rw[N9]at h2;cases h2
  · simp;cases h2:Op.bytesLess b a with
    |false=>rfl
    |true=>have:=U9 h1 h2;rw[N9]at this;cases this
theorem DO5 {l:List B1}{k:Str}{n:Nat}{x:B1}(hx:l[n]? =some x)(h:Op.bytesLess k x.Key=true):AN0 l k (n+1)=AN0 l k n:=by
  conv=>lhs;unfold AN0
  simp only[hx,h,if_true]
theorem DO6 {l:List B1}{k:Str}{n:Nat}{x:B1}(hx:l[n]? =some x)(h:Op.bytesLess k x.Key=false):AN0 l k (n+1)=n+1:=by
  unfold AN0;simp only[hx,h,Bool.false_eq_true,if_false]
def As0 (a b:Int):Int:=if a<b then a else b
theorem DO7 {n a b:Int}:within n a b=true↔a≤n∧n≤b:=by unfold within;simp
theorem DY5 {k:Str}(h:y7 k=true):k.length≤12:=by
  unfold y7 at h;simp only[F0,DO7]at h;omega
theorem DO8 {w:B1}(h:AQ1 w=true):w.size≤36:=by
  unfold AQ1 Aq3 at h;simp only[F0]at h;have h1:=DY5 h.1.1;have h2:=h.1.2;unfold AU1 at h2;simp only[F0,H6]at h2;unfold B1.size;omega
theorem Bo6 (a b:Str):Op.bytesLess a b=true∨a=b∨Op.bytesLess b a=true:=by
  have h:=n3 a b
  cases h1:Op.bytesLess a b
  · cases h2:Op.bytesLess b a
    ·rw[h1,h2]at h;simp at h;exact .inr (.inl h.symm)
    ·exact .inr (.inr rfl)
  ·exact .inl rfl
def AP2 (l:List Str):Prop:=l.Pairwise fun a b=>Op.bytesLess a b=true
theorem CC5 :∀{a b:List Str},AP2 a→AP2 b→(∀x,x∈a↔x∈b)→a=b
  |[],[],_,_,_=>rfl
  |[],y::b,_,_,h=>by have:=(h y).2 n4;cases this
  |x::a,[],_,_,h=>by have:=(h x).1 n4;cases this
  | x ::a,y::b,ha,hb,h=>by
    obtain⟨a1,a2⟩:=AD9.1 ha;obtain⟨b1,b2⟩:=AD9.1 hb;have asym:∀{u v:Str},Op.bytesLess u v=true→Op.bytesLess v u=true→False:=fun h k=>by
      have:=U9 h k;rw[N9]at this;cases this
    have e:x=y:=by
      rcases T6.1 ((h x).1 n4)with e|e
      ·exact e
      · rcases T6.1 ((h y).2 n4)with f|f
        ·exact f.symm
        ·exact(asym (b1 x e) (a1 y f)).elim
    subst e;rw[CC5 a2 b2 fun z=> ?_];constructor
    · intro hz
      rcases T6.1 ((h z).1 (U5 _ hz))with e|e
      ·subst e;have:=a1 z hz;rw[N9]at this;cases this
      ·exact e
    · intro hz
      rcases T6.1 ((h z).2 (U5 _ hz))with e|e
      ·subst e;have:=b1 z hz;rw[N9]at this;cases this
      ·exact e
def AX7 (l:List Str):List Str:=l.mergeSort fun x y=>decide (x≤y)
theorem le_less (x y:Str):decide (x≤y)= !Op.bytesLess y x:=by
  rw[Go.Proofs.bytesLess_eq];by_cases h:y<x
  ·simp[h,List.not_le.2 h]
  ·simp[h,List.not_lt.1 h]
theorem CZ6 (l:List Str)(z:Str):z∈AX7 l↔z∈l:=(List.mergeSort_perm l _).mem_iff
theorem BI8 (l:List Str):(AX7 l).length=l.length:=List.length_mergeSort l
theorem DO9 (l:List Str):(AX7 l).Pairwise fun a b=>Op.bytesLess b a=false:=by
  have h:=List.pairwise_mergeSort (le:=fun x y:Str=>decide (x≤y)) (fun a b c h1 h2=>by
    simp only[H6]at*;exact List.le_trans h1 h2) (fun a b=>by
    simp only[AC0,H6];exact List.le_total a b) l
  refine h.imp fun {a b} hab=> ?_;rw[le_less]at hab;simpa using hab
theorem BV8 {l:List Str} {z:Str}:∀{n:Nat},z∈AK1 l n↔∃i,i<n∧l[i]? =some z
  | 0 => by constructor
            ·intro h;cases h
            ·rintro ⟨i,h,_⟩;omega
  | n + 1=>by
    show z∈(if n≠0∧l[n]? =l[n-1]? then AK1 l n else AK1 l n++(l[n]?).toList)↔_
    split
    · rename_i h
      rw[BV8];constructor
      ·exact fun ⟨i,h1,h2⟩=>⟨i,by omega,h2⟩
      · intro ⟨i,h1,h2⟩
        by_cases e:i=n
        ·subst e;exact⟨i-1,by omega,h.2▸h2⟩
        ·exact⟨i,by omega,h2⟩
    · rw[y6,BV8,Option.mem_toList]
      constructor
      · rintro (⟨i,h1,h2⟩|h)
        ·exact⟨i,by omega,h2⟩
        ·exact⟨n,by omega,h⟩
      · intro ⟨i,h1,h2⟩
        by_cases e:i=n
        ·subst e;exact .inr h2
        ·exact .inl ⟨i,by omega,h2⟩
theorem DY6 (l:List Str)(z:Str):z∈cmpL l↔z∈l:=by
  unfold cmpL;rw[BV8];constructor
  ·exact fun ⟨i,_,h⟩=>C3 h
  · intro h
    obtain⟨i,hi⟩:=i5 h;exact⟨i,(G1.1 hi).1,hi⟩
theorem CC6 {l:List Str}(hs:l.Pairwise fun a b=>Op.bytesLess b a=false){i j:Nat}{x y:Str}(hij:i<j)(hx:l[i]? =some x)(hy:l[j]? =some y):Op.bytesLess y x=false:=by
  obtain⟨h1,e1⟩:=G1.1 hx;obtain⟨h2,e2⟩:=G1.1 hy;have:=List.pairwise_iff_getElem.1 hs i j h1 h2 hij;rw[e1,e2]at this;exact this
theorem CZ7 {l:List Str} (hs:l.Pairwise fun a b=>Op.bytesLess b a=false):∀{n:Nat},n≤l.length→AP2 (AK1 l n)
  |0,_=>List.Pairwise.nil
  | n + 1,hn=>by
    have ih:=CZ7 hs (n:=n) qz7;show AP2 (if n≠0∧l[n]? =l[n-1]? then AK1 l n else AK1 l n++(l[n]?).toList)
    split
    ·exact ih
    · rename_i h
      obtain⟨x,hx⟩:=B2 (show n<l.length by omega);rw[hx];refine List.pairwise_append.2 ⟨ih,List.pairwise_singleton _ _,fun z hz w hw=> ?_⟩;simp at hw;subst hw;obtain⟨i,hi,hzi⟩:=BV8.1 hz;have h1:=CC6 hs hi hzi hx;rcases Bo6 z w with e|e|e
      ·exact e
      · exfalso
        subst e;apply h
        refine⟨by omega,?_⟩;by_cases f:i=n-1
        ·rw[hx,←f,hzi]
        · obtain⟨v,hv⟩:=B2 (show n-1<l.length by omega)
          have h3:=CC6 hs (show n-1<n by omega) hv hx;have h4:=CC6 hs (show i<n-1 by omega) hzi hv;rw[hx,hv];rcases Bo6 z v with g|g|g
          ·rw[g]at h3;cases h3
          ·rw[g]
          ·rw[g]at h4;cases h4
      ·rw[h1]at e;cases e
def AI4 (l:List Str):List Str:=cmpL (AX7 l)
theorem BI9 (l:List Str):AP2 (AI4 l):=CZ7 (DO9 l) (K9 _)
theorem Aw3 (l:List Str)(z:Str):z∈AI4 l↔z∈l:=by unfold AI4;rw[DY6,CZ6]
theorem Af9 (l:List Str):(AI4 l).length≤l.length:=by
  have:=Cp3 (AX7 l) (AX7 l).length;unfold AI4 cmpL;rw[BI8]at this⊢;exact this
def AE9 :List Str→Str→List Str
  |[],s=>[s]
  |y::l,s=>if Op.bytesLess s y=true then s::y::l else if y=s then y::l else y::AE9 l s
theorem Av1 {s:Str}:∀{l:List Str},AP2 l→AP2 (AE9 l s)∧∀z,z∈AE9 l s↔z∈l∨z=s
  |[],_=>⟨by unfold AP2 AE9;simp,fun z=>by simp[AE9]⟩
  | y ::l,h=>by
    obtain⟨h1,h2⟩:=AD9.1 h;unfold AE9;split
    · rename_i hs
      refine⟨AD9.2 ⟨fun z hz=> ?_,h⟩,fun z=> ?_⟩
      · rcases T6.1 hz with rfl|hz
        ·exact hs
        ·exact U9 hs (h1 z hz)
      ·rw[T6,or_comm]
    · rename_i hs
      split
      · rename_i e
        subst e;refine⟨h,fun z=>⟨.inl,?_⟩⟩
        rintro (hz|rfl)
        ·exact hz
        ·exact n4
      · rename_i e
        obtain⟨i1,i2⟩:=Av1 (s:=s) h2;have hys:Op.bytesLess y s=true:=by
          rcases Bo6 y s with g|g|g
          ·exact g
          ·exact absurd g e
          ·exact absurd g hs
        refine⟨AD9.2 ⟨fun z hz=> ?_,i1⟩,fun z=> ?_⟩
        · rcases(i2 z).1 hz with hz|rfl
          ·exact h1 z hz
          ·exact hys
        ·rw[T6,i2,T6,or_assoc]
theorem Bg8 (s:Str):∀l:List Str,(AE9 l s).length≤l.length+1
  |[]=>K9 _
  | y ::l=>by
    have:=Bg8 s l;unfold AE9;split
    ·exact K9 _
    · split
      ·exact Nat.le_succ _
      ·rw[J7,J7];omega
def AG0 (l:List Str)(o:List Str):List Str:=l.foldl AE9 o
theorem Aj4 :∀{l o:List Str},AP2 o→AP2 (AG0 l o)∧∀z,z∈AG0 l o↔z∈o∨z∈l
  |[],o,h=>⟨h,fun z=>by simp[AG0]⟩
  | s::l,o,h=>by
    obtain⟨h1,h2⟩:=Av1 (s:=s) h;obtain⟨i1,i2⟩:=Aj4 (l:=l) h1;refine⟨i1,fun z=> ?_⟩;show z∈AG0 l (AE9 o s)↔_
    rw[i2,h2,T6,or_assoc]
theorem CZ8 (l:List Str):AI4 l=AG0 l []:=by
  obtain⟨h1,h2⟩:=Aj4 (l:=l) (o:=[]) List.Pairwise.nil;exact CC5 (BI9 l) h1 fun z=>by rw[Aw3,h2];simp
theorem CZ9 {s : Str} : ∀ {l :List Str} {k:Nat},AP2 l→k≤l.length→(∀i y,k≤i→l[i]? =some y→Op.bytesLess s y=true)→(∀y,0<k→l[k-1]? =some y→Op.bytesLess s y=false∧y≠s)→AE9 l s=l.take k++s::l.drop k
  | [], k, _, hk, _, _ => by have:k=0:=by simpa using hk
                             subst this;rfl
  | y::l,0,_,_,h,_=>by
    unfold AE9;rw[D9 (h 0 y (K9 _) rfl)];rfl
  | y ::l,k+1,hs,hk,h,g=>by
    obtain⟨h1,h2⟩:=AD9.1 hs;have hy:Op.bytesLess s y=false∧y≠s:=by
      cases k with
      |zero=>exact g y qz7 rfl
      | succ k=>
        obtain⟨z,hz⟩:=B2 (show k<l.length by simp at hk;omega);have hgz:=g z qz7 (by simpa using hz);have hyz:=h1 z (C3 hz);refine⟨?_,fun e=> ?_⟩
        · cases e:Op.bytesLess s y with
          |false=>rfl
          |true=>have:=U9 e hyz;rw[hgz.1]at this;cases this
        ·subst e;rw[hyz]at hgz;cases hgz.1
    unfold AE9;rw[D0 (by rw[hy.1];decide),D0 hy.2,CZ9 h2 (by simpa using hk) (fun i z hi hz=>h (i+1) z qz7 (by simpa using hz)) (fun z hz hz2=>g z qz7 (by
      cases k with
      |zero=>omega
      |succ k=>simpa using hz2))]
    rfl
theorem CI2 {s:Str}:∀{l:List Str} {k:Nat},AP2 l→l[k]? =some s→AE9 l s=l
  | y::l,0,hs,h=>by
    simp at h;subst h;unfold AE9;rw[D0 (by rw[N9];decide),D9 rfl]
  | y::l,k+1,hs,h=>by
    obtain⟨h1,h2⟩:=AD9.1 hs;have h3:l[k]? =some s:=by simpa using h
    have hy:=h1 s (C3 h3);unfold AE9;rw[D0 (fun e=>by have:=U9 e hy;rw[N9]at this;cases this),D0 (fun e=>by rw[e,N9]at hy;cases hy),CI2 h2 h3]
  |[],k,hs,h=>by simp at h
theorem Ay6 (l o:List Str)(s:Str):AG0 (l++[s]) o=AE9 (AG0 l o) s:=by
  unfold AG0;rw[List.foldl_append];rfl
theorem Ar5 :∀(l o:List Str),(AG0 l o).length≤o.length+l.length
  |[],o=>K9 _
  | s::l,o=>by
    have h1:=Ar5 l (AE9 o s);have h2:=Bg8 s o;show (AG0 l (AE9 o s)).length≤_
    rw[J7];omega
end Go.M
