/- Texts of the claim, part 7. -/
import Derived.Shelf.Strconv.Itoa3
import Derived.Test.YtddgbffjgkkgiaaGreatDoorProg
import Derived.Shelf.Strconv.ErrVarAll
import Derived.Shelf.Vars
import Derived.Stop.LaidErr
import Derived.Lib.OthersKept
import Derived.Shelf.Bits.Mul64
import Derived.Test.YtddgbffjgkkgiaaGreatDoorCards
import Derived.Test.YtddgbffjgkkgiaaGreatDoorTie
import Derived.Lay
import Derived.SevenTiedAt
import Derived.RangeFuncNested
import Derived.RangeFuncBound
import Derived.RangeFuncCalls
import Derived.RangeFuncLeaves
import Derived.RangeFuncBox
import Derived.Shelf.Abstract
import Derived.Shelf.RegionOpen
import Derived.WalkKit
import Derived.OwnWalkIn
import Derived.TacticsInMore
import Derived.LoopNIn
import Derived.LoopIn
import Derived.Test.YtddgbffjgkkgiaaGreatDoorZSound6
set_option linter.defProp false
set_option linter.unusedVariables false
set_option linter.unusedSimpArgs false
set_option maxRecDepth 100000
set_option maxHeartbeats 4000000
namespace Go.PQ
open Go.Proofs
open Go Go.AV Go.M
attribute [local irreducible] OpW OpA OpS AWP J6 L6 K3 OpE K4 I5 L0 Le Ev G4 L9 Int.tmod Int.tdiv IntKind.wrap
theorem Bc6 (x y:G9):D6 157 [AV.agg x.cs,AV.agg y.cs] (AV.bool (As3 x y)):=by
  refine B0 Tryz.func157 rfl Tryz.ntmps157 rfl ?_;refine R3 ?_;intro b2;refine R1 ?_;intro b3;refine R27 ?_;exact zq16
theorem Dd3 (l:List Int)(n:Int):(AW9 l n).length≤l.length+1:=by
  induction l with
  |nil=>simp[AW9]
  | cons y l ih=>
    unfold AW9;split
    ·rw[J7,J7];omega
    ·split<;>simp
theorem Cv2 {l:List G9}{x y:G9}{i:Nat}(hy:l[i]? =some y):AH5 (l.take (i+1)) x=if As3 x y=true then AW9 (AH5 (l.take i) x) y.Txn else AH5 (l.take i) x:=by
  unfold AH5;rw[X3,hy,List.filter_append,List.foldl_append]
  cases h:As3 x y<;>simp[h]
theorem Cv3 (l:List G9)(a:List Int):(l.foldl (fun a y=>AW9 a y.Txn) a).length≤a.length+l.length:=by
  induction l generalizing a with
  |nil=>simp
  |cons y l ih=>rw[List.foldl_cons];have:=ih (AW9 a y.Txn);have:=Dd3 a y.Txn;rw[J7];omega
theorem Bz6 (l:List G9)(x:G9):(AH5 l x).length≤l.length:=by
  unfold AH5;have h1:=Cv3 (l.filter (As3 x)) [];have h2:=List.length_filter_le (As3 x) l;rw[T5]at h1;omega
theorem CK8 {n:Int}:∀{l:List Int} {i:Nat},(∀j x,j<i→l[j]? =some x→x<n)→i≤l.length→(∀x,l[i]? =some x→¬x<n)→
    (∀x,l[i]? =some x→x=n→AW9 l n=l)∧((∀x,l[i]? =some x→x≠n)→AW9 l n=l.take i++n::l.drop i)
  |[],i,_,hi,_=>by simp at hi;subst hi;exact⟨fun x hx=>by simp at hx,fun _=>rfl⟩
  | y::l,0,_,_,h2=>by
    have h:=h2 y rfl;unfold AW9;rw[D0 h];refine⟨fun x hx hn=> ?_,fun hn=> ?_⟩
    ·simp at hx;subst hx;rw[D9 hn]
    ·rw[D0 (hn y rfl)];rfl
  | y::l,i+1,h1,hi,h2=>by
    have hy:=h1 0 y qz7 rfl;obtain⟨k1,k2⟩:=CK8 (n:=n) (l:=l) (i:=i) (fun j x hj hx=>h1 (j+1) x qz7 AT0) (by simpa using hi) (fun x hx=>h2 x AT0);unfold AW9;rw[D9 hy];refine⟨fun x hx hn=>by rw[k1 x AT0 hn],fun hn=>by rw[k2 fun x hx=>hn x AT0];rfl⟩
theorem Cv4 {p:Prop}(h:p:=by
 refine B0 Tryz.func229 rfl Tryz.ntmps229 rfl ?_;refine R2 ?_;refine zq70 ?_;refine R7 ?_;refine E8 [(0,_),(1,_),(4,_)] _ (fun (i:Nat)=>i≤l.length∧∀j x,j<i→l[j]? =some x→x<n) (fun i=>[]) (fun i=>[(5,AV.int i)]) (fun i=>l.length-i) (0) ?_ (G2 A6) ?_
 ·exact⟨E4 _,fun j x h=>by omega⟩
 intro i hinv;obtain⟨x,hx⟩:=Aw1 l i;have hx0:i<l.length→l[i]? =some x:=hx;refine R10 ?_;refine L5 rfl (fun hc=>C2 rfl D3 E9 (A7 rfl hc) (A7 rfl hc) (hx qz6) qz6) ?_;refine zC ?_ ?_
 ·intro h18;have hb:i<l.length∧x<n:=by simpa using h18
  refine R7 ?_;refine Al8 ?_;refine F1 i (i+1) ?_ ?_ (G2 A6)
  ·exact⟨by omega,fun j y hj hy=>(Nat.lt_or_ge j i).elim (fun h=>hinv.2 j y h hy) (fun h=>by (obtain rfl:j=i:=by omega);rw[hx0 hb.1]at hy;injection hy with hy;omega)⟩
  omega
 intro h18;have hb:i<l.length→¬x<n:=fun h=>by simpa [h]using h18
 obtain⟨hs1,hs2⟩:=tw13x0 hinv.2 hinv.1 (fun z hz=>by (have hzl:=(G1.1 hz).1;rw[hx0 hzl]at hz;injection hz with hz;subst hz;exact hb hzl));refine R11 ?_;refine L5 rfl (fun hc=>C2 rfl D3 E9 (A7 rfl hc) (A7 rfl hc) (hx qz6) qz6) ?_;refine zC ?_ ?_
 ·intro h32;have hc:i<l.length∧x=n:=by simpa using h32
  have he:=hs1 x (hx0 hc.1) hc.2;rw[he];refine R6 ?_;exact D1 rfl (A5 rfl qz205)
 intro h32;have hc:i<l.length→x≠n:=fun h=>by simpa [h]using h32
 have he:=hs2 (fun z hz=>by (have hzl:=(G1.1 hz).1;rw[hx0 hzl]at hz;injection hz with hz;subst hz;exact hc hzl));rw[he];refine R3 ?_;refine S3 rfl rfl rfl rfl D3 E9 ?_;intro v34;refine R2 ?_;refine A1 rfl (AG5 rfl D3 E9 zA zA qz1 qz1) ?_;refine I0 (by':=8) 0 rfl rfl rfl rfl D3 Tryz.type3 rfl rfl rfl rfl rfl rfl zA zA rfl (by simp only[A8,H0,T5];omega) ?_;intro v38_1;refine R7 ?_;refine I0 (by':=8) 0 rfl rfl rfl rfl D3 Tryz.type3 rfl rfl rfl rfl rfl rfl zA zA rfl CQ6 ?_;intro v42_2;refine R7 ?_;refine A1 rfl (BV5 rfl D3 E9 zA zA qz1 qz1) ?_;refine I0 (by':=8) 0 rfl rfl rfl rfl D3 Tryz.type3 rfl rfl rfl rfl rfl rfl zA zA rfl CQ6 ?_;intro v47_3;refine R3 ?_;refine Au6 0 4 rfl rfl ?_;exact D1 rfl (A5 rfl qz205)):p:=h
namespace tw13n0
def tw13x0 :=@CK8
end tw13n0
open tw13n0 in
theorem DT1 (l:List Int)(n:Int)(hl:l.length≤4194303):D6 229 [ints l,AV.int n] (ints (AW9 l n)):=Cv4
theorem Cv5 (l:List G9)(x:G9)(hl:l.length≤4194303):D6 423 [AV.list 3 (l.map G9.cs),AV.agg x.cs] (ints (AH5 l x)):=by
 refine B0 Tryz.func423 rfl Tryz.ntmps423 rfl ?_;refine R3 ?_;intro b3;refine zq70 ?_;refine R3 ?_;refine zq70 ?_;refine R9 ?_;refine E8 [(3,_),(4,_),(8,_),(9,_)] _ (fun (i:Nat)=>i≤l.length) (fun i=>[]) (fun i=>[(5,ints (AH5 (l.take i) x)),(10,AV.int i)]) (fun i=>l.length-i) (0) ?_ (G2 A6) ?_
 ·exact E4 _
 intro i hinv;refine zK ?_ ?_
 ·intro h11 k11;have hlt:i<l.length:=by omega
  obtain⟨y,hy⟩:=B2 hlt;have hwt:=Cv2 (x:=x) hy;have hwl:=Bz6 (l.take i) x;rw[H0]at hwl;refine R5 ?_;refine A1 rfl (C2 rfl V2 u5 zA zA hy qz1) ?_;refine R2 ?_;intro b7;refine R6 ?_;refine zF rfl Tryz.call157 (Bc6 _ _) F3 ?_;refine zC ?_ ?_
  ·intro h16;have hout:AW9 (AH5 (l.take i) x) y.Txn=AH5 (l.take (i+1)) x:=by rw[hwt,D9 h16]
   refine R4 ?_;refine zF rfl Tryz.call229 (DT1 _ _ X9) (A2 (A0 rfl) (A2 (A0 rfl) A9)) ?_;refine R6 ?_;refine F1 i (i+1) ?_ ?_ (T4 1 ⟨F2 (fun z=>some (ints z)) hout,rfl,rfl,rfl,rfl,rfl,trivial⟩)
   ·omega
   omega
  intro h16;have hout:AH5 (l.take i) x=AH5 (l.take (i+1)) x:=by rw[hwt,D0 (by rw[h16];decide)]
  refine R5 ?_;refine F1 i (i+1) ?_ ?_ (T4 1 ⟨F2 (fun z=>some (ints z)) hout,rfl,rfl,rfl,rfl,rfl,trivial⟩)
  ·omega
  omega
 intro h11 k11;have hge:l.length≤i:=by omega
 rw[S7 hge];exact zq216
theorem Cv6 (l:List G9)(fixed:List Int)(x:G9)(hl:l.length≤4194303):D6 418 [AV.list 3 (l.map G9.cs),ints fixed,AV.agg x.cs] (AV.tup [AV.int (BB4 l fixed x (AH5 l x)).1,ints (BB4 l fixed x (AH5 l x)).2]):=by
 obtain⟨w,hw⟩:∃w,AH5 l x=w:=⟨_,rfl⟩;have hwl:=Bz6 l x;rw[hw]at hwl;refine B0 Tryz.func418 rfl Tryz.ntmps418 rfl ?_;refine R3 ?_;intro b5;refine R1 ?_;refine zq70 ?_;refine R5 ?_;refine zF rfl Tryz.call423 (Cv5 _ _ X9) (A2 (A0 rfl) (A2 (A0 rfl) A9)) ?_;refine R4 ?_;rw[hw];refine zC ?_ ?_
 ·intro h16;have k16:=J9 h16;(try simp only[A8]at k16);have he:BB4 l fixed x w=(1,[]):=by (unfold BB4;rw[D9 qz7])
  rw[he];refine R3 ?_;refine zq70 ?_;refine R2 ?_;exact zq111
 intro h16;have k16:=J4 h16;(try simp only[A8]at k16);refine R9 ?_;refine E8 [(1,_),(5,_),(8,_),(17,_),(18,_)] _ (fun (i:Nat)=>i≤w.length∧(w.any fun t=>decide (t<x.Txn)||fixed.any fun y=>t==y)=((w.drop i).any fun t=>decide (t<x.Txn)||fixed.any fun y=>t==y)) (fun i=>[]) (fun i=>[(19,AV.int i)]) (fun i=>w.length-i) (0) ?_ (G2 A6) ?_
 ·exact zq4
 intro i hinv;refine zK ?_ ?_
 ·intro h20 k20;have hlt:i<w.length:=by omega
  obtain⟨y,hx⟩:=B2 hlt;refine zq205 ?_;refine R12 ?_;refine S0 rfl (fun hc=>zG rfl Tryz.call424 (Dd2 _ _) zS) ?_;refine zC ?_ ?_
  ·intro h31;have hany:(w.any fun t=>decide (t<x.Txn)||fixed.any fun y=>t==y)=true:=by (rw[hinv.2,J8 hx,Ak6,h31];rfl)
   have he:BB4 l fixed x w=(2,[]):=by (unfold BB4;rw[D0 qz7,D9 hany])
   rw[he];refine R3 ?_;refine zq70 ?_;refine R2 ?_;exact zq111
  intro h31;refine R5 ?_;refine F1 i (i+1) ?_ ?_ (G2 A6)
  ·exact⟨by omega,by rw[hinv.2,J8 hx,Ak6,h31];rfl⟩
  omega
 intro h20 k20;have hge:w.length≤i:=by omega
 have hany:(w.any fun t=>decide (t<x.Txn)||fixed.any fun y=>t==y)=false:=by (rw[hinv.2,r9 hge];rfl)
 have he:BB4 l fixed x w=(3,w):=by (unfold BB4;rw[D0 qz7,D0 (by rw[hany];decide)])
 rw[he];refine R8 ?_;exact zq111
theorem CK9 {α β:Type}{c:α→β}:∀{l:List α} {k:Nat} {y:α},l[k]? =some y→l.map c=(l.take k).map c++c y::(l.drop (k+1)).map c
  |[],k,y,h=>by simp at h
  |x::l,0,y,h=>by simp at h;subst h;rfl
  | x::l,k+1,y,h=>by
    rw[m4,CK9 (c:=c) (l:=l) (k:=k) (y:=y) Ag3];rfl
theorem map_len9 {α β:Type}{c:α→β}{l:List α}{k:Nat}{y:α}(h:l[k]? =some y):((l.take k).map c).length=k:=by
  have:=(G1.1 h).1;rw[A8,H0];omega
theorem Bz7 {l:List G9}{x:G9}{i:Nat}(h:AO6 l x=l.take i++AO6 (l.drop i) x){y:G9}(hy:l[i]? =some y):
    (((y.Key==x.Key)&&(y.Txn==x.Txn))=true→AO6 l x=l.take i++⟨y.Key,y.Txn,y.Write||x.Write⟩::l.drop (i+1))∧(((y.Key==x.Key)&&(y.Txn==x.Txn))=false→AO6 l x=l.take (i+1)++AO6 (l.drop (i+1)) x):=by
  rw[J8 hy]at h;constructor
  · intro hc
    rw[h];unfold AO6;rw[hc,D9 rfl]
  · intro hc
    rw[h,X3,hy];rw[AO6,hc,D0 E5];simp
theorem Ch4 (l:List G9)(x:G9)(hl:l.length≤4194303):D6 419 [AV.list 3 (l.map G9.cs),AV.agg x.cs] (AV.list 3 ((AO6 l x).map G9.cs)):=by
 refine B0 Tryz.func419 rfl Tryz.ntmps419 rfl ?_;refine R3 ?_;intro b3;refine zq55 ?_;refine R3 ?_;refine S3 rfl rfl rfl rfl V2 u5 ?_;intro v8;refine R1 ?_;refine I0 (by':=32) 0 rfl rfl rfl rfl V2 Tryz.type175 rfl rfl rfl rfl rfl rfl zA zA rfl qz1 ?_;intro v10_1;refine R10 ?_;refine H3 (F2 (fun z=>Own.arr v10_1 175 3 z::_) (AI0 _)) ?_;refine E8 [(3,_),(5,_),(11,_),(12,_)] _ (fun (i:Nat)=>i≤l.length∧AO6 l x=l.take i++AO6 (l.drop i) x) (fun i=>[]) (fun i=>[(13,AV.int i)]) (fun i=>l.length-i) (0) ?_ (G2 A6) ?_
 ·exact zq4
 intro i hinv;refine zK ?_ ?_
 ·intro h14 k14;have hlt:i<l.length:=by (simp only[I2,T5,A8,X4]at k14;omega)
  obtain⟨y,hy⟩:=B2 hlt;refine R6 ?_;refine A1 rfl (I4 0 rfl V2 u5 zA rfl zA qz7 qz200) ?_;refine A1 rfl (r5 0 rfl zA rfl Tryz.isAgg175 u5 (by rw[o5,a8,hy];rfl) E5) ?_;refine R1 ?_;intro b7;refine zC ?_ ?_
  ·intro h29;have he:=(Bz7 hinv.2 hy).1 h29;have hA:=map_len9 (c:=G9.cs) hy;rw[he,Y3,m4];refine H3 (F2 (fun z=>_::Own.arr v10_1 175 3 z::_) (CK9 hy)) ?_;refine R10 ?_;refine A1 rfl (I4 1 rfl V2 u5 zA rfl zA qz7 qz200) ?_;refine A1 rfl (O1 1 rfl Tryz.underlying175 rfl j3 zA rfl rfl (AC5 qz1)) ?_;refine Ag9 1 rfl rfl rfl zA zA (Ai9 _) rfl j3 qz1 rfl ?_;refine R7 ?_;refine Au6 1 4 rfl rfl ?_;exact zq3
  intro h29;refine R5 ?_;refine F1 i (i+1) ?_ ?_ (T4 1 A6)
  ·exact⟨by omega,(Bz7 hinv.2 hy).2 h29⟩
  omega
 intro h14 k14;have hge:l.length≤i:=by (simp only[I2,T5,A8,X4]at k14;omega)
 have he:AO6 l x=l++[x]:=by (have:=hinv.2;rwa [S7 hge,r9 hge]at this)
 rw[he,Y3,m4];refine R6 ?_;refine I0 (by':=32) 0 rfl rfl rfl rfl V2 Tryz.type175 rfl rfl rfl rfl rfl rfl zA zA rfl (by rw[A8,X4];omega) ?_;intro v45_2;refine R3 ?_;refine Au6 0 4 rfl rfl ?_;exact zq3
def Af1 (l:List G9)(t:Int)(of:Bool):List G9:=l.filter fun y=>((y.Txn==t)==of)
theorem DF3 {l:List G9}{t:Int}{of:Bool}{i:Nat}{y:G9}(hy:l[i]? =some y):(Af1 (l.take (i+1)) t of).map G9.cs=(Af1 (l.take i) t of).map G9.cs++(if ((y.Txn==t)==of)=true then [G9.cs y]else []):=by
  unfold Af1;rw[X3,hy,List.filter_append,Y3]
  cases h:((y.Txn==t)==of)<;>simp[h]
theorem DT2 (l:List G9)(t:Int)(of:Bool):(Af1 l t of).length≤l.length:=List.length_filter_le _ _
theorem DF4 (l:List G9)(t:Int)(of:Bool)(hl:l.length≤4194303):D6 395 [AV.list 3 (l.map G9.cs),AV.int t,AV.bool of] (AV.list 3 ((Af1 l t of).map G9.cs)):=by
 refine B0 Tryz.func395 rfl Tryz.ntmps395 rfl ?_;refine R2 ?_;refine zq55 ?_;refine R3 ?_;refine n1 175 3 rfl rfl rfl rfl L2 ?_;intro v7;refine R9 ?_;refine K5 [(1,_),(2,_),(6,_),(10,_),(11,_)] _ (fun (i:Nat) (v:Value)=>i≤l.length) (fun i v=>[.arr v 175 3 ((Af1 (l.take i) t of).map G9.cs)]) (fun i v=>[(7,AV.is v),(12,AV.int i)]) (fun i v=>l.length-i) (0) (v7) ?_ (I1 B7 A6) ?_
 ·exact E4 _
 intro i v hinv;refine zK ?_ ?_
 ·intro h13 k13;have hlt:i<l.length:=by omega
  obtain⟨y,hy⟩:=B2 hlt;have hst:=DF3 (t:=t) (of:=of) hy;have hpl:=DT2 (l.take i) t of;rw[H0]at hpl;refine R5 ?_;refine A1 rfl (C2 rfl V2 u5 zA zA hy qz1) ?_;refine R2 ?_;intro b9;refine R9 ?_;refine A1 rfl (BR2 rfl U4 zA zA) ?_;refine zC ?_ ?_
  ·intro h21;have hout:(Af1 (l.take i) t of).map G9.cs++[G9.cs y]=(Af1 (l.take (i+1)) t of).map G9.cs:=by rw[hst,D9 h21]
   refine R4 ?_;refine I0 (by':=32) 1 rfl rfl rfl rfl V2 Tryz.type175 rfl rfl rfl rfl rfl rfl zA zA rfl (by rw[A8,X4];omega) ?_;intro v25_1;refine R6 ?_;refine H5 i v (i+1) (v25_1) ?_ ?_ (Le.trans (B4 [0,0] rfl) (D5 1 (by exact F2 (fun z=>[Own.arr _ 175 3 z]) hout) A6))
   ·omega
   omega
  intro h21;have hout:(Af1 (l.take i) t of).map G9.cs=(Af1 (l.take (i+1)) t of).map G9.cs:=by rw[hst,D0 (by rw[h21];decide),T2]
  refine R5 ?_;refine H5 i v (i+1) (v) ?_ ?_ (Le.trans (B4 [0,0] rfl) (D5 1 (by exact F2 (fun z=>[Own.arr _ 175 3 z]) hout) A6))
  ·omega
  omega
 intro h13 k13;have hge:l.length≤i:=by omega
 rw[S7 hge];refine R7 ?_;refine Au6 0 6 rfl rfl ?_;exact zq3
end Go.PQ
namespace Go.Proofs
open Go.Shelf
def Tryz.itoa_ren :Go.Shelf.Ren:=⟨fun|171=>214|243=>261|246=>315|283=>352|284=>353|285=>354|286=>355|129=>272|317=>385|318=>386|319=>387|320=>388|337=>403|338=>404|n=>n,fun|3=>3|9=>9|2=>2|4=>4|171=>353|0=>0|53=>75|37=>22|5=>5|173=>355|212=>379|51=>264|20=>20|213=>380|46=>220|232=>403|233=>404|n=>n,fun|17=>0|18=>4|19=>5|n=>n⟩
theorem Tryz.itoa :Go.Proofs.LaysM.n171 Tryz.prog Tryz.itoa_ren:=by
  repeat' first|kernel_rfl|(intro w;kernel_rfl)|constructor
end Go.Proofs
namespace Go.PQ
open Go.Proofs Go.Proofs.Tryz
open Go Go.AV Go.M
attribute [local irreducible] OpW OpA OpS AWP J6 L6 K3 OpE K4 I5 L0 Le Ev G4 L9 Int.tmod Int.tdiv IntKind.wrap
def tabW (w:World):Prop:=Lib.TabIs Tryz.prog w "internal/strconv.uint64pow10" .u64 Lib.pow10Tab
theorem Dd4 {W w':World}(h:tabW W)(hw:RLe (BA8 W) w'):tabW w':=DO1 h hw
theorem Dd5 {W:World}{rest:List (String×DataW Unit)}(h:laidMet Tryz.prog (("internal/strconv.uint64pow10",Lib.tabData .u64 Lib.pow10Tab)::rest) W):tabW W:=
  Lib.tabIs_of_head (g:=0) (t:=379) E3 E3 underlying379 underlying75 E3 E3 h
theorem Cc6 (n:Int)(h: -9223372036854775808≤n∧n≤9223372036854775807):D6 214 [AV.wt tabW (AV.int n)] (AV.str (AA9 n)):=
  Co8 fun R w v hr hv hT=>by
    rw[show v=Value.int .i64 n from hv];refine(Any.strconv_Itoa Tryz.itoa n h.1 h.2 w hT).mono ?_
    rintro e w' ⟨rfl,k,os,rfl⟩
    exact⟨_,rfl,rfl,DB4 w k os⟩
theorem CL0 (n:Nat):n≤1000000000000→D6 287 [AV.int n] (AV.str (AF0 n)):=by
 induction n using Nat.strongRecOn with
 | ind n ih=>
  intro hn;refine B0 func287 rfl ntmps287 rfl ?_;refine zq185 ?_;refine zK ?_ ?_
  ·intro h4 k4;have hn10:n<10:=by omega
   refine R4 ?_;refine A1 rfl (Ad1 rfl E3 underlying5 zA) ?_;rw[dig1];refine R1 ?_;refine A1 rfl (DJ7 (bs:=[UInt8.ofNat (48+n)]) rfl AL5 underlying5 P6 zA) ?_;refine R3 ?_;exact D1 rfl (A5 rfl qz204)
  intro h4 k4;have hn10:¬n<10:=by omega
  have hdl:=BD6 (k:=12) (n:=n / 10) qz7 E5;refine R4 ?_;refine B3 rfl rfl (Cl7 rfl zA L1 E5) ?_;rw[quo10 hn];refine B3 rfl rfl (zG rfl call287 (ih (n / 10) qz7 qz7) G6) ?_;refine R1 ?_;refine B3 rfl rfl (BM8 rfl zA L1 E5) ?_;refine B3 rfl rfl (Ba2 rfl L1 zA (by rw[tmod10T];omega)) ?_;refine B3 rfl rfl (Ad1 rfl E3 underlying5 zA) ?_;rw[dig2];refine R1 ?_;refine B3 rfl rfl (DJ7 (bs:=[UInt8.ofNat (48+n % 10)]) rfl AL5 underlying5 P6 zA) ?_;refine B3 rfl rfl (w_cat rfl zA zA qz219) ?_;refine R3 ?_;exact D1 rfl (A5 rfl qz204)
theorem Dd6 (b:UInt8)(r:Str):BK2 (b::r)=(!within ((b::r).length:Nat) 1 6||(((b.toNat:Int)==48)&&decide ((1:Int)<((b::r).length:Nat)))):=by
  unfold BK2;have:(b==48)=((b.toNat:Int)==48):=by
    by_cases h:b=48
    ·subst h;rfl
    · have h2:b.toNat≠48:=fun e=>h (UInt8.toNat_inj.1 e)
      have h3:(b==48)=false:=by simpa using h
      rw[h3];symm;simp;omega
  simp[this]
theorem dig_val9 {x:UInt8}(h:48≤x.toNat∧x.toNat≤57):IntKind.i64.wrap (IntKind.u8.wrap ((x.toNat:Int)-48))=((x.toNat-48:Nat):Int):=by
  have e:IntKind.u8.wrap ((x.toNat:Int)-48)=((x.toNat-48:Nat):Int):=by
    simp[IntKind.wrap,IntKind.bits,IntKind.signed];omega
  rw[e,BR1 qz7]
theorem rd_next9 {n i:Nat}{s:Str}{x:UInt8}(hx:s[i]? =some x)(h:48≤x.toNat∧x.toNat≤57):m1 n (s.drop i)=m1 (10*n+(x.toNat-48)) (s.drop (i+1)):=by
  have hlt:=(G1.1 hx).1;rw[List.drop_eq_getElem_cons hlt,(G1.1 hx).2];conv=>lhs;unfold m1
  rw[D9 (by unfold BI1;simp;omega)]
theorem rd_stop9 {n i:Nat}{s:Str}{x:UInt8}(hx:s[i]? =some x)(h:x.toNat<48∨57<x.toNat):m1 n (s.drop i)= -1:=by
  have hlt:=(G1.1 hx).1;rw[List.drop_eq_getElem_cons hlt,(G1.1 hx).2];conv=>lhs;unfold m1
  rw[D0 (by unfold BI1;simp;omega)]
theorem pow69 {i:Nat}(h:i≤6):10 ^ i≤1000000:=Nat.pow_le_pow_right E5 h
theorem pow_nx9 {n i d:Nat}(h:n+1≤10 ^ i)(hd:d≤9):(10*n+d)+1≤10 ^ (i+1):=by rw[Nat.pow_succ];omega
theorem DF5 :D6 286 [AV.str []] (AV.int (l1R [])):=by
 refine B0 func286 rfl ntmps286 rfl ?_;refine R9 ?_;refine zq155 ?_;refine R3 ?_;refine S0 rfl (fun hc=>(show OpW _ _ _ _ _ _ (AV.byte 0)from(by exfalso;revert hc;decide))) ?_;refine zC ?_ ?_
 ·intro h18;exact zq40
 intro h18;exfalso;revert h18;decide
theorem Cv7 (b:UInt8)(r:Str)(hs:(b::r).length≤1048576):D6 286 [AV.str (b::r)] (AV.int (l1R (b::r))):=by
 have hb0:(b::r)[0]? =some b:=rfl;obtain⟨s,hse⟩:∃s,b::r=s:=⟨_,rfl⟩;have hbad:=Dd6 b r;rw[hse]at hs hb0 hbad⊢;refine B0 func286 rfl ntmps286 rfl ?_;refine R9 ?_;refine zq155 ?_;refine R3 ?_;refine S0 rfl (fun hc=>Ad2 rfl P6 (A7 rfl hc) L1 (by have:=(G1.1 hb0).1;omega) hb0) ?_;refine zC ?_ ?_
 ·intro h18;have he:l1R s= -1:=D9 (by rw[hbad];exact h18);rw[he];exact zq40
 intro h18;have he:l1R s=m1 0 s:=D0 (by rw[hbad,h18];decide);rw[he];have hl6:s.length≤6:=(by simp only[v9,AD1]at h18;have h9:=h18.1;unfold within at h9;simp at h9;omega);refine R11 ?_;refine K5 [(0,_)] _ (fun (i:Nat) (n:Nat)=>i≤s.length∧m1 0 s=m1 n (s.drop i)∧n+1≤10 ^ i) (fun i n=>[]) (fun i n=>[(3,AV.int n),(4,AV.int i)]) (fun i n=>s.length-i) (0) (0) ?_ (G2 A6) ?_
 ·exact⟨E4 _,rfl,by decide⟩
 intro i n hinv;have hp6:=pow69 (i:=i) qz7;refine zK ?_ ?_
 ·intro h22 k22;obtain⟨x,hx⟩:=B2 (show i<s.length by omega);refine R8 ?_;refine A1 rfl (Ad2 rfl P6 zA zA qz7 hx) ?_;refine R4 ?_;refine S0 rfl (fun hc=>Ad2 rfl P6 (A7 rfl hc) (A7 rfl hc) qz7 hx) ?_;refine zC ?_ ?_
  ·intro h34;have hst:=rd_stop9 (n:=n) hx (by simp only[AC0,H6]at h34;omega);rw[hinv.2.1,hst];exact zq40
  intro h34;have hdig:48≤x.toNat∧x.toNat≤57:=(by simp only[v9,AB8]at h34;omega);refine R3 ?_;refine A1 rfl (Ad0 rfl L1 zA qz1) ?_;refine R2 ?_;refine A1 rfl (Ad2 rfl P6 zA zA qz7 hx) ?_;refine A1 rfl (w_sub rfl zA L1) ?_;refine A1 rfl (Ad1 rfl E3 W8 zA) ?_;rw[dig_val9 hdig];refine R8 ?_;refine H5 i n (i+1) (10*n+(x.toNat-48)) ?_ ?_ (G2 ⟨F2 (fun z=>some (AV.int z)) qz7,rfl,rfl,trivial⟩)
  ·exact⟨by omega,hinv.2.1.trans (rd_next9 hx hdig),pow_nx9 hinv.2.2 qz7⟩
  omega
 intro h22 k22;have hend:m1 0 s=(n:Int):=(by rw[hinv.2.1,List.drop_of_length_le qz7];rfl);rw[hend];exact zq216
theorem Br7 (s:Str)(hs:s.length≤1048576):D6 286 [AV.str s] (AV.int (l1R s)):=by
  cases s with
  |nil=>exact DF5
  |cons b r=>exact Cv7 b r hs
theorem Cv8 (s:Str): -1≤l1R s:=by
  have h:∀(s:Str) (n:Nat), -1≤m1 n s:=by
    intro s;induction s with
    |nil=>intro n;unfold m1;omega
    |cons b s ih=>intro n;unfold m1;split;exact ih _;omega
  unfold l1R;split
  ·omega
  ·exact h s 0
theorem rd_up9 :∀(s:Str) (n k:Nat),n+1≤10 ^ k→m1 n s+1≤10 ^ (k+s.length)
  | [],n,k,h=>by
    have:((n+1:Nat):Int)≤((10 ^ k:Nat):Int):=Int.ofNat_le.2 h;simp only[m1,T5,Nat.add_zero]
    push_cast at this⊢;exact this
  | b ::s,n,k,h=>by
    unfold m1;split
    · rename_i hd
      have h2:b.toNat-48≤9:=by unfold BI1 at hd;simp at hd;omega
      have:=rd_up9 s (10*n+(b.toNat-48)) (k+1) (by rw[Nat.pow_succ];omega);rw[J7,show k+(s.length+1)=k+1+s.length by omega];exact this
    · have:(0:Int)≤10 ^ (k+(b::s).length):=Int.pow_nonneg E5
      omega
theorem DM2 (s:Str):l1R s≤999999:=by
  unfold l1R;split
  ·omega
  · rename_i h
    have hl:s.length≤6:=by
      unfold BK2 within at h
      simp only[AC0,not_or]at h;have:=h.1;simp at this;omega
    have h1:=rd_up9 s 0 0 E5;have h2:(10:Int) ^ (0+s.length)≤10 ^ 6:=by
      have:=Nat.pow_le_pow_right (n:=10) E5 (show 0+s.length≤6 by omega)
      exact_mod_cast this
    omega
theorem BZ6 (s:Str)(hs:s.length≤1048576):D6 227 [AV.str s] (AV.tup [AV.int (l5N s).1,AV.bool (l5N s).2]):=by
 have hlo1:=Cv8 s;have hlo2:=Cv8 (s.drop 1);have hup1:=DM2 s;have hup2:=DM2 (s.drop 1);have hd1:(s.drop 1).length≤1048576:=by rw[AB9];omega
 obtain⟨b0,hb0⟩:=Aw1 s 0;have hneg:(decide ((0:Int)<(s.length:Int))&&((b0.toNat:Int)==45))=decide (s.head? =some 45):=by
  cases s with
  |nil=>rfl
  |cons c r=>
   have e:=hb0 X1;simp at e;subst e;rw[AI1];simp only[J7,F0,H6,m6,List.head?_cons,Option.some.injEq];constructor
   ·intro h;exact UInt8.toNat_inj.1 (by have:=h.2;simp;omega)
   intro h;subst h;exact⟨by omega,rfl⟩
 refine B0 func227 rfl ntmps227 rfl ?_;refine R12 ?_;refine L5 rfl (fun hc=>Ad2 rfl P6 (A7 rfl hc) L1 qz7 (hb0 Be1)) ?_;refine R5 ?_;rw[hneg];refine zC ?_ ?_
 ·intro h16;have hh:s.head? =some 45:=AB7 h16;have hbody:(if s.head? =some 45 then s.drop 1 else s)=s.drop 1:=D9 hh;have hl1:1≤s.length:=by (cases s with|nil=>cases hh|cons c r=>simp)
  refine R2 ?_;refine A1 rfl (w_ssl_lo rfl P6 zA L1 qz1 qz1) ?_;refine R5 ?_;refine zF rfl call286 (Br7 _ (by first|exact hs|exact hd1)) (A2 (A0 rfl) A9) ?_;refine zC ?_ ?_
  ·intro h29;have he:l5N s=(0,false):=by (unfold l5N;rw[hbody];exact D9 h29)
   rw[he];refine R6 ?_;exact zq76
  intro h29;have he:l5N s=if s.head? =some 45 then (-(l1R (s.drop 1)),true)else (l1R s,true):=by (unfold l5N;rw[hbody];exact D0 (fun e=>Bool.noConfusion (e.symm.trans h29)))
  rw[he];refine zC ?_ ?_
  ·intro h30;rw[D9 (AB7 h30)];refine R3 ?_;refine A1 rfl (w_neg rfl zA) ?_;refine R4 ?_;exact zq76
  intro h30;rw[D0 (BO5 h30)];refine R8 ?_;exact zq76
 intro h16;have hh:¬s.head? =some 45:=BO5 h16;have hbody:(if s.head? =some 45 then s.drop 1 else s)=s:=D0 hh;refine R4 ?_;refine zF rfl call286 (Br7 _ (by first|exact hs|exact hd1)) (A2 (A0 rfl) A9) ?_;refine zC ?_ ?_
 ·intro h29;have he:l5N s=(0,false):=by (unfold l5N;rw[hbody];exact D9 h29)
  rw[he];refine R6 ?_;exact zq76
 intro h29;have he:l5N s=if s.head? =some 45 then (-(l1R (s.drop 1)),true)else (l1R s,true):=by (unfold l5N;rw[hbody];exact D0 (fun e=>Bool.noConfusion (e.symm.trans h29)))
 rw[he];refine zC ?_ ?_
 ·intro h30;rw[D9 (AB7 h30)];refine R3 ?_;refine A1 rfl (w_neg rfl zA) ?_;refine R4 ?_;exact zq76
 intro h30;rw[D0 (BO5 h30)];refine R8 ?_;exact zq76
theorem DT3 (o:TOp)(hs:o.size≤1048576):D6 118 [AV.agg o.cs] (AV.bool (Bt8 o)):=by
 have hs':=hs;unfold TOp.size at hs';refine B0 func118 rfl ntmps118 rfl ?_;refine R3 ?_;intro b1;refine R7 ?_;refine zq135 ?_;refine zC ?_ ?_
 ·intro h6;refine R5 ?_;exact D1 rfl (A5 rfl BQ9)
 intro h6;refine zC ?_ ?_
 ·intro h9;have k9:=J9 h9;(try simp only[A8]at k9);refine zC ?_ ?_
  ·intro h9;have k9:=J9 h9;(try simp only[A8]at k9);exact zq199
  intro h9;have k9:=J4 h9;(try simp only[A8]at k9);refine zC ?_ ?_
  ·intro h20;have k20:=J9 h20;(try simp only[A8]at k20);refine zC ?_ ?_
   ·intro h20;have k20:=J9 h20;(try simp only[A8]at k20);refine R4 ?_;exact zq21
   intro h20;have k20:=J4 h20;(try simp only[A8]at k20);exact zq46
  intro h20;have k20:=J4 h20;(try simp only[A8]at k20);refine zC ?_ ?_
  ·intro h20;have k20:=J9 h20;(try simp only[A8]at k20);refine R4 ?_;exact zq21
  intro h20;have k20:=J4 h20;(try simp only[A8]at k20);exact zq46
 intro h9;have k9:=J4 h9;(try simp only[A8]at k9);refine zC ?_ ?_
 ·intro h9;have k9:=J9 h9;(try simp only[A8]at k9);exact zq199
 intro h9;have k9:=J4 h9;(try simp only[A8]at k9);refine zC ?_ ?_
 ·intro h20;have k20:=J9 h20;(try simp only[A8]at k20);refine zC ?_ ?_
  ·intro h20;have k20:=J9 h20;(try simp only[A8]at k20);refine R4 ?_;exact zq21
  intro h20;have k20:=J4 h20;(try simp only[A8]at k20);exact zq46
 intro h20;have k20:=J4 h20;(try simp only[A8]at k20);refine zC ?_ ?_
 ·intro h20;have k20:=J9 h20;(try simp only[A8]at k20);refine R4 ?_;exact zq21
 intro h20;have k20:=J4 h20;(try simp only[A8]at k20);exact zq46
theorem Br8 (l:List TOp)(hs:D2 TOp.size l≤1048576):D6 46 [AV.list 4 (l.map TOp.cs)] (AV.bool (BB3 l)):=by
 refine B0 func46 rfl ntmps46 rfl ?_;refine Y0 (t:=0) rfl fun hl=> ?_;try simp only[A8]at hl
 refine R12 ?_;refine E8 [(0,_),(5,_),(6,_)] _ (fun (i:Nat)=>i≤l.length∧l.all Bt8=(l.drop i).all Bt8) (fun i=>[]) (fun i=>[(7,AV.int i)]) (fun i=>l.length-i) (0) ?_ (G2 A6) ?_
 ·exact zq4
 intro i hinv;refine zK ?_ ?_
 ·intro h8 k8;have hlt:i<l.length:=by omega
  obtain⟨x,hx⟩:=B2 hlt;have hsx:x.size≤1048576:=L7 (W4 hx) hs;refine zq168 ?_;intro b4;refine R5 ?_;refine zF rfl call118 (DT3 _ X9) (A2 (A0 rfl) A9) ?_;refine zC ?_ ?_
  ·intro h13;have hno:BB3 l=false:=by (unfold BB3;rw[hinv.2,J8 hx,AA7];simp_all)
   rw[hno];refine R5 ?_;exact D1 rfl (A5 rfl (by first|rfl|exact F2 AV.bool (by unfold BB3;rw[hall];simp)))
  intro h13;refine R5 ?_;refine F1 i (i+1) ?_ ?_ (T4 1 A6)
  ·exact⟨by omega,by rw[hinv.2,J8 hx,AA7];simp_all⟩
  omega
 intro h8 k8;have hge:l.length≤i:=by omega
 have hall:l.all Bt8=true:=by (rw[hinv.2,r9 hge];rfl)
 refine R9 ?_;exact D1 rfl (A5 rfl (by first|rfl|exact F2 AV.bool (by unfold BB3;rw[hall];simp)))
end Go.PQ
namespace Go.M
open Go.AV
theorem CL1 {l:List Str}{k:Str}{i:Nat}{c:Str}(h:l[i]? =some c):w4 (l.take (i+1)) k=w4 (l.take i) k+(if leS c k=true then 1 else 0):=by
  unfold w4;rw[X3,h,List.filter_append,I2]
  cases hc:leS c k<;>simp[hc]
theorem getD_row {l:List Str}{i:Nat}(h:i<l.length):(l.map fun s=>[AV.str s])[((i:Nat):Int).toNat]? =some [AV.str (l.getD i [])]:=by
  rw[o5,a8,Q5 h,AD8,List.getD_eq_getElem?_getD,Q5 h];rfl
theorem Cv9 {l:List Str}{i:Nat}(h:i<l.length):l[i]? =some (l.getD i []):=by
  rw[Q5 h,List.getD_eq_getElem?_getD,Q5 h];rfl
theorem Cc7 {l:List Str}{k:Str}{i:Nat}(hi:i≤r4 l k)(h:(decide ((i:Int)<(l.length:Int))&&leS (l.getD i []) k)=true):i<l.length∧i+1≤r4 l k:=by
  simp only[F0,H6]at h;have hl:i<l.length:=by omega
  refine⟨hl,?_⟩;rcases Nat.lt_or_ge i (r4 l k)with h1|h1
  ·exact h1
  · have:=(CD5 (k:=k) (Cv9 hl)).2 qz7
    rw[h.2]at this;cases this
theorem Dd7 {l:List Str}{k:Str}{i:Nat}(hi:i≤r4 l k)(h:(decide ((i:Int)<(l.length:Int))&&leS (l.getD i []) k)=false):i=r4 l k:=by
  have hle:=CD4 l k;rcases Nat.lt_or_ge i (r4 l k)with h1|h1
  · have hl:i<l.length:=by omega
    rw[(CD5 (k:=k) (Cv9 hl)).1 h1,W6 qz7]at h;cases h
  ·omega
theorem CE3 (l:List Str)(k:Str):w4 l k≤l.length:=List.length_filter_le _ _
theorem Cc8 {l:List Str}(h:AB2 l=true):l.Pairwise fun a b=>Op.bytesLess a b=true:=by
  unfold AB2 at h;simp only[F0]at h;exact(An1 (p:=Op.bytesLess) (fun _ _ _=>U9)).1 h.1.2
def AN5 :List Int→Int→List Int
  |[],n=>[n]
  |x::l,n=>if x<n then x::AN5 l n else if x=n then x::l else n::x::l
theorem Cc9 {l:List Int}{n x:Int}:x∈AN5 l n↔x=n∨x∈l:=by
  induction l with
  |nil=>simp[AN5]
  | cons y l ih=>
    unfold AN5;split
    ·simp only[T6,ih];constructor<;>rintro (h|h|h)<;>simp[h]
    · split
      ·rename_i h;subst h;simp
      ·simp
theorem Cw0 {l:List Int} {n:Int} (h:l.Pairwise (·<·)):(AN5 l n).Pairwise (·<·):=by
  induction l with
  |nil=>simp[AN5]
  | cons y l ih=>
    obtain⟨h1,h2⟩:=AD9.1 h;unfold AN5;split
    · rename_i hy
      refine AD9.2 ⟨fun z hz=> ?_,ih h2⟩;rcases Cc9.1 hz with rfl|hz
      ·exact hy
      ·exact h1 z hz
    · split
      ·exact h
      · rename_i h3 h4
        refine AD9.2 ⟨fun z hz=> ?_,h⟩;rcases T6.1 hz with rfl|hz
        ·omega
        ·have:=h1 z hz;omega
theorem BW5 {l:List Int} {z:Int}:∀{n:Nat},z∈AK1 l n↔∃i,i<n∧l[i]? =some z
  | 0 => by constructor
            ·intro h;cases h
            ·rintro ⟨i,h,_⟩;omega
  | n + 1=>by
    show z∈(if n≠0∧l[n]? =l[n-1]? then AK1 l n else AK1 l n++(l[n]?).toList)↔_
    split
    · rename_i h
      rw[BW5];constructor
      ·exact fun ⟨i,h1,h2⟩=>⟨i,by omega,h2⟩
      · intro ⟨i,h1,h2⟩
        by_cases e:i=n
        ·subst e;exact⟨i-1,by omega,h.2▸h2⟩
        ·exact⟨i,by omega,h2⟩
    · rw[y6,BW5,Option.mem_toList]
      constructor
      · rintro (⟨i,h1,h2⟩|h)
        ·exact⟨i,by omega,h2⟩
        ·exact⟨n,by omega,h⟩
      · intro ⟨i,h1,h2⟩
        by_cases e:i=n
        ·subst e;exact .inr h2
        ·exact .inl ⟨i,by omega,h2⟩
theorem Dd8 (l:List Int)(z:Int):z∈cmpL l↔z∈l:=by
  unfold cmpL;rw[BW5];constructor
  ·exact fun ⟨i,_,h⟩=>C3 h
  · intro h
    obtain⟨i,hi⟩:=i5 h;exact⟨i,(G1.1 hi).1,hi⟩
theorem Cd0 {l:List Int} (hs:l.Pairwise (·≤·)):∀{n:Nat},n≤l.length→(AK1 l n).Pairwise (·<·)
  |0,_=>List.Pairwise.nil
  | n + 1,hn=>by
    have ih:=Cd0 hs (n:=n) qz7;show (if n≠0∧l[n]? =l[n-1]? then AK1 l n else AK1 l n++(l[n]?).toList).Pairwise (·<·)
    split
    ·exact ih
    · rename_i h
      obtain⟨x,hx⟩:=B2 (show n<l.length by omega);rw[hx];refine List.pairwise_append.2 ⟨ih,List.pairwise_singleton _ _,fun z hz w hw=> ?_⟩;simp at hw;subst hw;obtain⟨i,hi,hzi⟩:=BW5.1 hz;have pg:∀{i j:Nat} {x y:Int},i<j→l[i]? =some x→l[j]? =some y→x≤y:=fun hij hx hy=>by
        obtain⟨h1,e1⟩:=G1.1 hx;obtain⟨h2,e2⟩:=G1.1 hy;rw[←e1,←e2];exact List.pairwise_iff_getElem.1 hs _ _ h1 h2 hij
      have h1:=pg hi hzi hx;rcases Int.lt_or_le z w with e|e
      ·exact e
      · exfalso
        have ez:z=w:=by omega
        subst ez;apply h
        refine⟨by omega,?_⟩;obtain⟨y,hy⟩:=B2 (show n-1<l.length by omega);have h2:y≤z:=pg qz7 hy hx;by_cases f:i=n-1
        ·rw[hx,←f,hzi]
        · have h3:z≤y:=pg qz7 hzi hy
          rw[hx,hy,show y=z by omega]
theorem Cw1 :∀{a b:List Int},a.Pairwise (·<·)→b.Pairwise (·<·)→(∀x,x∈a↔x∈b)→a=b
  |[],[],_,_,_=>rfl
  |[],y::b,_,_,h=>by have:=(h y).2 n4;cases this
  |x::a,[],_,_,h=>by have:=(h x).1 n4;cases this
  | x ::a,y::b,ha,hb,h=>by
    obtain⟨a1,a2⟩:=AD9.1 ha;obtain⟨b1,b2⟩:=AD9.1 hb;have e:x=y:=by
      rcases T6.1 ((h x).1 n4)with e|e
      ·exact e
      · rcases T6.1 ((h y).2 n4)with f|f
        ·exact f.symm
        ·have:=b1 x e;have:=a1 y f;omega
    subst e;rw[Cw1 a2 b2 fun z=> ?_];constructor
    · intro hz
      rcases T6.1 ((h z).1 (U5 _ hz))with e|e
      ·subst e;have:=a1 z hz;omega
      ·exact e
    · intro hz
      rcases T6.1 ((h z).2 (U5 _ hz))with e|e
      ·subst e;have:=b1 z hz;omega
      ·exact e
def Ao6 (cuts ks:List Str):List Int:=ks.foldl (fun a k=>AN5 a (r4 cuts k)) []
theorem BH3 {cuts:List Str}:∀{ks:List Str} {a:List Int},a.Pairwise (·<·)→(ks.foldl (fun a k=>AN5 a (r4 cuts k)) a).Pairwise (·<·)∧∀z,z∈ks.foldl (fun a k=>AN5 a (r4 cuts k)) a↔z∈a∨∃k∈ks,z=(r4 cuts k:Int)
  |[],a,h=>⟨h,fun z=>by simp⟩
  | k ::ks,a,h=>by
    obtain⟨h1,h2⟩:=BH3 (cuts:=cuts) (ks:=ks) (Cw0 (n:=(r4 cuts k:Int)) h);refine⟨h1,fun z=> ?_⟩;show z∈ks.foldl (fun a k=>AN5 a (r4 cuts k)) (AN5 a (r4 cuts k))↔_
    rw[h2,Cc9];simp only[T6,exists_eq_or_imp];constructor
    · rintro ((h|h)|h)
      ·exact .inr (.inl h)
      ·exact .inl h
      ·exact .inr (.inr h)
    · rintro (h|h|h)
      ·exact .inl (.inr h)
      ·exact .inl (.inl h)
      ·exact .inr h
theorem DT4 {cuts:List Str} {a b:Str} (h:Op.bytesLess a b=true):r4 cuts a≤r4 cuts b:=by
  unfold r4;induction cuts with
  |nil=>exact K9 _
  | cons c l ih=>
    cases hc:leS c a with
    | true=>
      have hb:leS c b=true:=by
        rw[DK8]at hc⊢
        cases hx:Op.bytesLess b c with
        |false=>rfl
        |true=>rw[U9 h hx]at hc;cases hc
      rw[List.takeWhile_cons_of_pos (p:=fun c=>leS c a) hc,List.takeWhile_cons_of_pos (p:=fun c=>leS c b) hb,J7,J7];omega
    |false=>rw[List.takeWhile_cons_of_neg (p:=fun c=>leS c a) (by rw[hc];decide)];exact E4 _
theorem DT5 {cuts ks:List Str}(hc:cuts.Pairwise fun a b=>Op.bytesLess a b=true)(hk:ks.Pairwise fun a b=>Op.bytesLess a b=true):cmpL (ks.map fun k=>(w4 cuts k:Int))=Ao6 cuts ks:=by
  rw[show (ks.map fun k=>(w4 cuts k:Int))=ks.map fun k=>(r4 cuts k:Int)from List.map_congr_left fun k _=>by rw[CS9 hc]];obtain⟨h1,h2⟩:=BH3 (cuts:=cuts) (ks:=ks) (a:=[]) List.Pairwise.nil;have hs:(ks.map fun k=>(r4 cuts k:Int)).Pairwise (·≤·):=List.pairwise_map.2 (hk.imp fun h=>by have:=DT4 (cuts:=cuts) h;omega);refine Cw1 (Cd0 hs (K9 _)) h1 fun z=> ?_;rw[Dd8,show z∈Ao6 cuts ks↔z∈([]:List Int)∨∃k∈ks,z=(r4 cuts k:Int)from h2 z,n6];constructor
  ·rintro ⟨k,hk,rfl⟩;exact .inr ⟨k,hk,rfl⟩
  · rintro (h|⟨k,hk,rfl⟩)
    ·cases h
    ·exact⟨k,hk,rfl⟩
def orderR (o:Ai4):Bool:=T8 ⟨1,o.Txn,1,0,o.Reads,o.Writes,false⟩
theorem CL2 {n:Int}:∀{l:List Int} {i:Nat},(∀j x,j<i→l[j]? =some x→x<n)→i≤l.length→(∀x,l[i]? =some x→¬x<n)→
    (∀x,l[i]? =some x→x=n→AN5 l n=l)∧((∀x,l[i]? =some x→x≠n)→AN5 l n=l.take i++n::l.drop i)
  |[],i,_,hi,_=>by simp at hi;subst hi;exact⟨fun x hx=>by simp at hx,fun _=>rfl⟩
  | y::l,0,_,_,h2=>by
    have h:=h2 y rfl;unfold AN5;rw[D0 h];refine⟨fun x hx hn=> ?_,fun hn=> ?_⟩
    ·simp at hx;subst hx;rw[D9 hn]
    ·rw[D0 (hn y rfl)];rfl
  | y::l,i+1,h1,hi,h2=>by
    have hy:=h1 0 y qz7 rfl;obtain⟨k1,k2⟩:=CL2 (n:=n) (l:=l) (i:=i) (fun j x hj hx=>h1 (j+1) x qz7 AT0) (by simpa using hi) (fun x hx=>h2 x AT0);unfold AN5;rw[D9 hy];refine⟨fun x hx hn=>by rw[k1 x AT0 hn],fun hn=>by rw[k2 fun x hx=>hn x AT0];rfl⟩
theorem Dd9 (l:List Int)(n:Int):(AN5 l n).length≤l.length+1:=by
  induction l with
  |nil=>simp[AN5]
  | cons y l ih=>
    unfold AN5;split
    ·rw[J7,J7];omega
    ·split<;>simp
theorem DF6 {l ks:List Str}{i:Nat}{k:Str}(h:ks[i]? =some k):Ao6 l (ks.take (i+1))=AN5 (Ao6 l (ks.take i)) (r4 l k):=by
  unfold Ao6;rw[X3,h,List.foldl_append];rfl
theorem Az7 (l:List Str):∀(ks:List Str),(Ao6 l ks).length≤ks.length:=by
  have key:∀(ks:List Str) (a:List Int),(ks.foldl (fun a k=>AN5 a (r4 l k)) a).length≤a.length+ks.length:=by
    intro ks;induction ks with
    |nil=>intro a;exact K9 _
    | cons k ks ih=>
      intro a;have h1:=ih (AN5 a (r4 l k));have h2:=Dd9 a (r4 l k);rw[List.foldl_cons,J7];omega
  intro ks;have:=key ks [];unfold Ao6;simpa using this
theorem DT6 (w:List B1):(O8 w).length=w.length:=by unfold O8;rw[A8]
def OpD (o:TOp):Prop:=BB2 o=true∧o.Key∈AI5∧o.size≤64
theorem valD_gv {v:Str}(h:v∈valD):AV3 v=true∧v.length≤10:=by
  have:∀v∈valD,AV3 v=true∧v.length≤10:=by decide
  exact this v h
theorem Aj6 {K:Int}{k v:Str}(h1:1≤K∧K≤7)(hv:Aj7 K=true)(hk:k∈AI5)(h:v∈valD):OpD ⟨K,k,v,0⟩:=by
  obtain⟨k1,k2⟩:=AL9 hk;obtain⟨v1,v2⟩:=valD_gv h;refine⟨?_,hk,by unfold TOp.size;dsimp only;omega⟩;unfold BB2 within
  dsimp only;rw[W6 h1.1,W6 h1.2,k1,v1,hv]
  cases As2 K<;>rfl
theorem An9 {K n:Int}{k:Str}(h1:1≤K∧K≤7)(hb:As2 K=true)(hk:k∈AI5)(h: -9999≤n∧n≤9999):OpD ⟨K,k,[],n⟩:=by
  obtain⟨k1,k2⟩:=AL9 hk;refine⟨?_,hk,by unfold TOp.size;simp only[T5];omega⟩;unfold BB2 within
  dsimp only;rw[W6 h1.1,W6 h1.2,k1,hb,W6 h.1,W6 h.2]
  cases Aj7 K<;>rfl
theorem Ar8 {K:Int}{k:Str}(h1:1≤K∧K≤7)(hk:k∈AI5):OpD ⟨K,k,[],0⟩:=by
  obtain⟨k1,k2⟩:=AL9 hk;refine⟨?_,hk,by unfold TOp.size;simp only[T5];omega⟩;unfold BB2 within
  dsimp only;rw[W6 h1.1,W6 h1.2,k1]
  cases Aj7 K<;>cases As2 K<;>rfl
theorem De0 {l:List TOp}(hl:l.length≤8)(h:∀o∈l,OpD o):n8 l=true∧∀o∈l,o.Key∈AI5:=by
  refine⟨?_,fun o ho=>(h o ho).2.1⟩;unfold n8;rw[W6 qz7,Bool.true_and,n5,List.any_eq_false];intro o ho;rw[(h o ho).1];decide
theorem De1 (s:Str): -9223372036854775808≤AU3 s∧AU3 s≤9223372036854775807:=by
  unfold AU3;split
  ·rename_i h;exact Lib.atoiAll_bounds h
  ·unfold Lib.atoiSat;split<;>omega
  ·omega
theorem nG_safe :Ac7 nG5=true:=by decide
def DA2 (g:C1):Bool:=decide (0≤g.Lead)&&((M3 g g.Lead).Log.take (M3 g g.Lead).Sure.toNat).any fun e=>e.Term==g.Term
theorem nG_ready :DA2 nG5=true:=by decide
theorem nG_told :(Ai8 nG5).Told=[]:=by decide
structure NOk (cuts:List Str)(ps:List (List TOp))(ls:List (List Str)):Prop where
  cuts:AB2 cuts=true∧cuts.length≤2∧∀k∈cuts,k.length≤12
  ps:ps.length≤5∧∀p∈ps,n8 p=true∧D2 TOp.size p≤1000
  ls:ls.length≤4∧∀l∈ls,AP4 l=true∧l.length≤8∧∀k∈l,k.length≤12
theorem De2 {cuts:List Str}{ps:List (List TOp)}{ls:List (List Str)}{p:List TOp}(h:n8 p=true)(h0:0<p.length):AA4 (nW cuts ps ls) (BF1 (cuts.length+1) p)=true:=by
  unfold AA4 nW BF1;dsimp only;simp only[F0,H6,w3,beq_self_eq_true,V7];refine⟨⟨⟨⟨⟨⟨⟨h,by omega⟩,by decide⟩,trivial⟩,fun n hn=> ?_⟩,by decide⟩,by decide⟩,by decide⟩;rw[(AE0.1 hn).2];decide
theorem DT7 {cuts:List Str}{ps:List (List TOp)}{ls:List (List Str)}{k:Nat}{l:List Str}(h:AP4 l=true):o4 (nW cuts ps ls) (BP8 (cuts.length+1) k l)=true:=by
  unfold o4 nW BP8;dsimp only;simp only[F0,H6,w3];refine⟨⟨⟨⟨⟨⟨⟨?_,h⟩,?_⟩,by decide⟩,by rfl⟩,by decide⟩,by decide⟩,by decide⟩
  · unfold within
    have h1:0≤Int.tmod (k:Int) (3*((cuts.length+1:Nat):Int)):=Int.tmod_nonneg _ qz7;have h2:Int.tmod (k:Int) (3*((cuts.length+1:Nat):Int))<3*((cuts.length+1:Nat):Int):=Int.tmod_lt_of_pos _ qz7;rw[W6 h1,W6 qz7];rfl
  ·simp
theorem nW_good {cuts:List Str}{ps:List (List TOp)}{ls:List (List Str)}(h:NOk cuts ps ls)(hp:nOk ps=true):Z4 (nW cuts ps ls)=true:=by
  have hc:=h.cuts.2.1;have hpl:=h.ps.1;have hll:=h.ls.1;have h9:∀x∈ps.map (BF1 (cuts.length+1)),AA4 (nW cuts ps ls) x=true:=fun x hx=>by
    obtain⟨p,hm,rfl⟩:=n6.1 hx;exact De2 (h.ps.2 p hm).1 (by have:=AB7 (V7.1 hp p hm);omega)
  have h8:∀x∈AX4 (cuts.length+1) ls ls.length,o4 (nW cuts ps ls) x=true:=fun x hx=>by
    obtain⟨k,l,hm,rfl⟩:=BO3 (K9 _) hx;exact DT7 (h.ls.2 l hm).1
  have h7:AJ2 (nW cuts ps ls)=true:=by
    unfold AJ2 nW;dsimp only;simp only[F0,H6,m6,w3];exact⟨⟨⟨⟨⟨by omega,h.cuts.1⟩,by omega⟩,by omega⟩,by omega⟩,by omega⟩
  unfold Z4;rw[h7];simp only[F0,V7,H6,m6];refine⟨⟨⟨⟨⟨⟨⟨⟨⟨trivial,fun g hg=> ?_⟩,fun l hl=> ?_⟩,fun p hp=> ?_⟩,show o0 0=true by decide⟩,show within 0 0 1000000=true by decide⟩,?_,?_⟩,fun c hc=> ?_⟩,h9⟩,h8⟩
  ·rw[(AE0.1 hg).2];exact⟨DL9.2.2.2.2.2,by decide⟩
  ·rw[(AE0.1 hl).2];decide
  ·rw[(AE0.1 hp).2];decide
  ·show ((ps.map (BF1 (cuts.length+1))).length:Int)≤6;rw[A8];omega
  ·show ((AX4 (cuts.length+1) ls ls.length).length:Int)≤4;rw[Az6];omega
  ·rw[(AE0.1 hc).2];decide
theorem nW_sures (cuts:List Str)(ps:List (List TOp))(ls:List (List Str)):O6 (nW cuts ps ls)=List.replicate (cuts.length+1) (Ai8 nG5):=by
  unfold O6 nW;dsimp only;exact List.map_replicate ..
theorem nW_tolds (cuts:List Str)(ps:List (List TOp))(ls:List (List Str))(n:Int):P8 (O6 (nW cuts ps ls)) n=[]:=by
  unfold P8;rw[nW_sures,List.filterMap_eq_nil_iff];intro s hs;rw[(AE0.1 hs).2,nG_told];rfl
theorem DT8 (cuts:List Str)(ps:List (List TOp))(ls:List (List Str))(n k:Nat)(p:List TOp)(parts:List Int)(done:Bool):Aa8 (nW cuts ps ls) (O6 (nW cuts ps ls)) k (BF1 n p) parts done=true:=by
  unfold Aa8 BP2;rw[nW_tolds];rfl
def As6 (x:List AV)(k:Nat):List (List AV):=List.replicate k x++List.replicate (3-k) [AV.bool false,AV.nils,AV.int 0]
theorem Bi5 {x:List AV}{k:Nat}(h:k≤3):(As6 x k).length=3:=by unfold As6;rw[I2,w3,w3];omega
theorem BH4 {x:List AV}{k:Nat}(h:1≤k∧k<3):(As6 x k).take k++(As6 x k).take (min k ((As6 x k).length-k))++(As6 x k).drop (k+min k ((As6 x k).length-k))=As6 x (k+1)∧min k ((As6 x k).length-k)=1:=by
  rw[Bi5 qz7];rcases k with _|_|_|k
  ·omega
  ·exact⟨rfl,rfl⟩
  ·exact⟨rfl,rfl⟩
  ·omega
theorem nilReps {own:List Go.AV.Own}:BO8 own (List.replicate 3 [AV.bool true,AV.nils,AV.int 0]) (nG0.Reps.map D8.cs):=by
  have he:nG0.Reps.map D8.cs=List.replicate 3 (D8.cs ⟨true,[],0⟩):=rfl;rw[he];refine⟨by simp,fun i e f h k=> ?_⟩;rw[List.getElem?_replicate]at h k;split at h
  · rename_i hlt
    rw[D9 hlt]at k;injection h with h;injection k with k;subst h;subst k
    exact D7 H9 (D7 BC8 (D7 H9 Z6))
  ·cases h
theorem wr3 :IntKind.u64.wrap 3=3:=by decide
theorem wr1 :IntKind.u64.wrap 1=1:=by decide
theorem wi3 :IntKind.i64.wrap 3=((3:Nat):Int):=by decide
def m5 (a b:Int):Int:=if b<a then a else b
def Bk6 (s:E1)(n:Int):Int×Bool:=if (V1 s&&o0 n)=true then (if m5 s.Floor n+1≤100000 then (m5 s.Floor n+1,true)else (0,false))else (0,false)
theorem Bi6 {n:Int}:o0 n=true↔0≤n∧n≤100000:=by unfold o0 within;simp only[F0,H6]
def BF2 (s:Ac5):Bool:=(decide (s.Low≤s.High)&&decide (s.Low≥ -10))&&decide (s.High≤100010)
def AA2 (c:S6):Bool:=within c.Off (-5) 5
def AB3 (c:S6)(now:Int):Ac5:=⟨now+c.Off-5,now+c.Off+5⟩
theorem Cw2 {s:Ac5}:BF2 s=true↔(s.Low≤s.High∧ -10≤s.Low)∧s.High≤100010:=by unfold BF2;simp only[F0,H6]
theorem Bl4 {c:S6}:AA2 c=true↔ -5≤c.Off∧c.Off≤5:=by unfold AA2 within;simp only[F0,H6]
def ifT (t:Int):Int×Bool:=(if t≤100000 then t else 0,decide (t≤100000))
def Ao7 (m:Int)(l:List Int):Int:=l.foldl m5 m
def BX5 (s:E1)(x:Ac5):Int×Bool:=if (V1 s&&BF2 x)=true then ifT (m5 1 (m5 (s.Floor+1) (x.High+10)))else (0,false)
theorem Bz8 {m:Int}{l:List Int}{i:Nat}{x:Int}(h:l[i]? =some x):Ao7 m (l.take (i+1))=m5 (Ao7 m (l.take i)) x:=by
  unfold Ao7;rw[X3,h,List.foldl_append];rfl
end Go.M
namespace Go.PQ
open Go.Proofs Go.Proofs.Tryz
open Go Go.AV Go.M
attribute [local irreducible] OpW OpA OpS AWP J6 L6 K3 OpE K4 I5 L0 Le Ev G4 L9 Y8 Int.tmod Int.tdiv IntKind.wrap T3
theorem Br9 (l:List Str)(k:Str):D6 79 [strs l,AV.str k] (AV.int (w4 l k)):=by
 refine B0 func79 rfl ntmps79 rfl ?_;refine Y0 (t:=0) rfl fun hl=> ?_;try simp only[A8]at hl
 refine R16 ?_;refine K5 [(1,_),(4,_),(8,_),(9,_)] _ (fun (i:Nat) (n:Int)=>i≤l.length∧n=(w4 (l.take i) k:Int)) (fun i n=>[]) (fun i n=>[(5,AV.int n),(10,AV.int i)]) (fun i n=>l.length-i) (0) (0) ?_ (G2 A6) ?_
 ·exact zq4
 intro i n hinv;refine zK ?_ ?_
 ·intro h11 k11;have hlt:i<l.length:=by omega
  obtain⟨x,hx⟩:=B2 hlt;have hle:=CE3 (l.take i) k;rw[H0]at hle;refine zq72 ?_;refine R7 ?_;refine A1 rfl (Cn5 rfl zA zA) ?_;refine zC ?_ ?_
  ·intro h16;refine R9 ?_;refine H5 i n (i+1) (n+1) ?_ ?_ (G2 A6)
   ·exact⟨by omega,by rw[CL1 hx,hinv.2,D9 (show leS x k=true from h16)];omega⟩
   omega
  intro h16;refine R5 ?_;refine H5 i n (i+1) (n) ?_ ?_ (G2 A6)
  ·exact⟨by omega,by rw[CL1 hx,hinv.2,D0 (show ¬leS x k=true from fun h9=>by rw[show leS x k=false from h16]at h9;cases h9)];omega⟩
  omega
 intro h11 k11;have hge:l.length≤i:=by omega
 rw[show n=(w4 l k:Int)from by rw[hinv.2,S7 hge]];exact zq216
theorem BS7 (l:List Str)(hs:∀k∈l,k.length≤4611686018427387904):D6 45 [strs l] (AV.bool (AB2 l)):=by
 refine B0 func45 rfl ntmps45 rfl ?_;refine Y0 (t:=0) rfl fun hl=> ?_;try simp only[A8]at hl
 refine R12 ?_;refine E8 [(0,_),(5,_),(6,_)] _ (fun (i:Nat)=>i≤l.length∧(l.all y7&&adj Op.bytesLess l)=((l.drop i).all y7&&adj Op.bytesLess (l.drop (i-1)))) (fun i=>[]) (fun i=>[(7,AV.int i)]) (fun i=>l.length-i) (0) ?_ (G2 A6) ?_
 ·exact zq4
 intro i hinv;refine zK ?_ ?_
 ·intro h8 k8;have hlt:i<l.length:=by omega
  obtain⟨x,hx⟩:=B2 hlt;obtain⟨y,hy⟩:=B2 (show i-1<l.length by omega);have hsx:=hs x (C3 hx);refine zq220 ?_;refine zq135 ?_;refine R8 ?_;refine AF2 rfl rfl (Y9 rfl rfl rfl) (fun hc=>AX5 rfl E2 I6 (A7 rfl hc) (A7 rfl hc) (by have:=AB7 (BM7 hc);omega) qz114) ?_;refine R2 ?_;refine zq174 ?_;refine zC ?_ ?_
  ·intro h27;have hfin:(l.all y7&&adj Op.bytesLess l)=false:=by rw[hinv.2,J8 hx,AA7];cases hg:y7 x with|false=>simp|true=>(simp only[hg,Bool.not_true,Bool.false_or,F0,H6,n5]at h27;rw[Am9 hx hy qz7 h27.2];simp)
   refine R5 ?_;exact D1 rfl (A5 rfl qz157)
  intro h27;refine R5 ?_;refine F1 i (i+1) ?_ ?_ (G2 A6)
  ·exact⟨by omega,by rw[hinv.2,J8 hx,AA7,Am8 hx hy (fun h0=>by simp_all),show y7 x=true by simp_all];simp⟩
  omega
 intro h8 k8;have hge:l.length≤i:=by omega
 refine R9 ?_;exact D1 rfl (A5 rfl qz157)
theorem BL4 (l:List Str)(hs:∀k∈l,k.length≤4611686018427387904):D6 34 [strs l] (AV.bool (AB2 l)):=by
  rw[←DC0];refine B0 func34 rfl ntmps34 rfl ?_;refine R11 ?_;refine L5 rfl (fun hc=>zG rfl call107 (Ad9 l hs) zS) ?_;refine R4 ?_;exact D1 rfl (A5 rfl (by first|rfl|exact F2 AV.bool (by unfold CF8;simp only[A8])))
theorem Ae1 (l:List Str)(k:Str):D6 96 [strs l,AV.str k] (AV.int (r4 l k)):=by
 refine B0 func96 rfl ntmps96 rfl ?_;refine Y0 (t:=0) rfl fun hl=> ?_;try simp only[A8]at hl
 refine R10 ?_;refine E8 [(0,_),(1,_),(4,_)] _ (fun (i:Nat)=>i≤r4 l k) (fun i=>[]) (fun i=>[(5,AV.int i)]) (fun i=>l.length-i) (0) ?_ (G2 A6) ?_
 ·exact E4 _
 intro i hinv;refine R10 ?_;refine L5 rfl (fun hc=>AX5 rfl E2 I6 (A7 rfl hc) (A7 rfl hc) qz7 (getD_row (by have h9:=AB7 hc;simp only[A8]at h9;omega))) ?_;refine R2 ?_;refine L5 rfl (fun hc=>Cn5 rfl (A7 rfl hc) (A7 rfl hc)) ?_;refine zC ?_ ?_
 ·intro h17;have h17m:(decide ((i:Int)<(l.length:Int))&&leS (l.getD i []) k)=true:=by (have h9:=h17;rw[A8]at h9;exact h9)
  have hlt:=(Cc7 hinv h17m).1;refine R7 ?_;refine Al8 ?_;refine F1 i (i+1) ?_ ?_ (G2 A6)
  ·exact(Cc7 hinv h17m).2
  omega
 intro h17;have h17m:(decide ((i:Int)<(l.length:Int))&&leS (l.getD i []) k)=false:=by (have h9:=h17;rw[A8]at h9;exact h9)
 rw[Dd7 hinv h17m];exact zq216
end Go.PQ
namespace Go.PQ
open Go.Proofs
open Go Go.AV Go.M
attribute [local irreducible] OpW OpA OpS AWP J6 L6 K3 OpE K4 I5 L0 Le Ev G4 L9
theorem Bs0 {l:List Int}{i j:Nat}{s:Int}(h:l[i]? =some s)(hj:j=i*1):((l.map fun s=>[AV.int s]).flatten)[j]? =some (AV.int s):=by
  rw[hj,Nat.mul_one];have e:(l.map fun s=>[AV.int s]).flatten=l.map AV.int:=by
    clear h;induction l with
    |nil=>rfl
    |cons x l ih=>simp[ih]
  rw[e,a8,h];rfl
theorem CU3 (v:Value)(l:List Int)(hl:l.length≤4194304):M0 218 [AV.is v] [.arr v 3 1 (l.map fun s=>[AV.int s])]
   (fun _:Value=>True) (fun v=>[.arr v 3 1 ((cmpL l).map fun s=>[AV.int s])]) (fun v=>AV.is v):=by
 refine C8 Tryz.func218 rfl Tryz.ntmps218 rfl ?_;refine zq10 ?_;refine zK ?_ ?_
 ·intro h8 k8;have hall:cmpL l=l:=by (unfold cmpL;rw[An0 (K9 _) (fun i h1 h2=>by omega),AO5])
  refine R6 ?_;exact I9 [0] v (trivial) rfl qz81 (O2 rfl (A5 rfl W5))
 intro h8 k8;refine R7 ?_;refine E8 [(0,_)] _ (fun (k:Nat)=>(1≤k∧k≤l.length)∧∀i,1≤i→i<k→l[i]? ≠l[i-1]?) (fun k=>[]) (fun k=>[(3,AV.int k)]) (fun k=>l.length-k) (1) ?_ (G2 A6) ?_
 ·exact⟨⟨K9 _,by omega⟩,fun i h1 h2=>by omega⟩
 intro k hinv;refine zK ?_ ?_
 ·intro h13 k13;have hlt:k<l.length:=by omega
  obtain⟨x,hx⟩:=B2 hlt;obtain⟨y,hy⟩:=B2 (show k-1<l.length by omega);refine R7 ?_;refine B3 rfl rfl (I4 0 rfl D3 E9 zA rfl zA qz1 qz1) ?_;refine B3 rfl rfl (AC8 0 rfl zA rfl O3 (Bs0 hx qz7)) ?_;refine R3 ?_;refine B3 rfl rfl (I4 0 rfl D3 E9 zA rfl zA qz1 qz1) ?_;refine B3 rfl rfl (AC8 0 rfl zA rfl O3 (Bs0 hy qz7)) ?_;refine zC ?_ ?_
  ·intro h25;have k25:=J9 h25;(try simp only[A8]at k25);have hxy:l[k]? =l[k-1]? :=by (rw[hx,hy];have h9:=h25;simp at h9;rw[h9])
   have hinv0:=hinv;refine R4 ?_;refine A1 rfl (BN0 0 rfl D3 E9 zA rfl zA qz1 qz1) ?_;refine R8 ?_;refine W1 [(0,_),(4,_),(10,_),(11,_),(12,_),(13,_),(16,_),(17,_),(18,_),(19,_),(20,_),(21,_),(22,_),(23,_),(24,_),(25,_),(26,_),(27,_),(28,_)] _ (fun (i:Nat) (j:Nat) (m:List Int)=>1≤j∧k+j≤l.length∧i+1≤k+j∧m.length=l.length∧m.take i=AK1 l (k+j)∧m.drop (k+j-1)=l.drop (k+j-1)) (fun i j m=>[.arr v 3 1 (m.map fun s=>[AV.int s])]) (fun i j m=>[(3,AV.int i),(5,AV.int j)]) (fun i j m=>l.length-(k+j)) (k) (1) (l) ?_ (I1 B7 A6) ?_
   ·exact⟨K9 _,by omega,by omega,rfl,by rw[Bo4 qz7 hxy,An0 qz7 hinv0.2],rfl⟩
   intro i j m hinv;refine R5 ?_;refine A1 rfl (w_tlen 0 rfl D3 zA rfl) ?_;refine zK ?_ ?_
   ·intro h32 k32;have hlt1:k+j<l.length:=by omega
    obtain⟨x1,hx1⟩:=B2 hlt1;obtain⟨y1,hy1⟩:=B2 (show k+j-1<l.length by omega);have hmx:=Ay5 hinv.2.2.2.2.2 hx1 qz7;have hmy:=Ay5 hinv.2.2.2.2.2 hy1 qz7;refine R7 ?_;refine B3 rfl rfl (Ba6 0 rfl D3 E9 zA rfl zA qz7 AE8) ?_;refine B3 rfl rfl (AC8 0 rfl zA rfl O3 (Bs0 hmx Cl1)) ?_;refine R3 ?_;refine B3 rfl rfl (Ba6 0 rfl D3 E9 zA rfl zA qz7 AE8) ?_;refine B3 rfl rfl (AC8 0 rfl zA rfl O3 (Bs0 hmy (by rw[show ((k:Int).toNat+((j:Int)-1).toNat)=k+j-1 by omega]))) ?_;refine zC ?_ ?_
    ·intro h44;refine R6 ?_;refine A1 rfl (Ba6 0 rfl D3 E9 zA rfl zA qz7 AE8) ?_;refine A1 rfl (AC8 0 rfl zA rfl O3 (Bs0 hmx Cl1)) ?_;refine A1 rfl (I4 0 rfl D3 E9 zA rfl zA qz7 AE8) ?_;refine e8 0 rfl rfl rfl zA zA (X2 _ _) rfl E9 rfl Bu6 ?_;refine R11 ?_;refine Q8 i j m (i+1) (j+1) (m.set i x1) ?_ ?_ (I1 (by first|exact F2 (fun z=>[Own.arr v 3 1 z]) (AF4).symm|rfl) A6)
     ·exact Cp4 hinv qz7 hx1 hy1 Bu3
     omega
    intro h44;refine R6 ?_;refine Q8 i j m (i) (j+1) (m) ?_ ?_ (I1 (by first|exact F2 (fun z=>[Own.arr v 3 1 z]) (AF4).symm|rfl) A6)
    ·exact Cp5 hinv qz7 hx1 hy1 Bu3
    omega
   intro h32 k32;have hge:k+j=l.length:=by omega
   refine R5 ?_;refine A1 rfl (BN0 0 rfl D3 E9 zA rfl zA qz1 qz1) ?_;refine CY2 0 rfl rfl rfl D3 Tryz.zeroValue3 rfl rfl E5 zA rfl Bu6 ?_;refine R5 ?_;refine Co1 0 rfl rfl rfl rfl D3 E9 zA rfl zA qz7 (by simp only[A8,I2,H0,w3];omega) ?_;intro v59_1;refine R3 ?_;exact I9 [0] v59_1 (trivial) rfl qz81 (O2 rfl (A5 rfl W5))
  intro h25;have k25:=J4 h25;(try simp only[A8]at k25);refine R6 ?_;refine F1 k (k+1) ?_ ?_ (G2 A6)
  ·exact⟨⟨by omega,by omega⟩,fun i h1 h2=>if e:i=k then (by subst e;rw[hx,hy];intro e;injection e with e;subst e;simp at h25)else hinv.2 i h1 qz7⟩
  omega
 intro h13 k13;have hall:cmpL l=l:=by (unfold cmpL;rw[An0 (K9 _) (fun i h1 h2=>hinv.2 i h1 qz7),AO5])
 refine R7 ?_;exact I9 [0] v (trivial) rfl qz81 (O2 rfl (A5 rfl W5))
namespace tw13n1
def tw13x0 :=@CL2
end tw13n1
open tw13n1 in
theorem DT9 (l:List Int)(n:Int)(hl:l.length≤4194303):D6 229 [ints l,AV.int n] (ints (AN5 l n)):=Cv4
end Go.PQ
namespace Go.PQ
open Go.Proofs Go.Proofs.Tryz
open Go Go.AV Go.M
attribute [local irreducible] OpW OpA OpS AWP J6 L6 K3 OpE K4 I5 L0 Le Ev G4 L9 Y8
theorem DF7 (r:List Str)(w:List B1)(hr:r.length≤1000000)(hw:D2 B1.size w≤1048576):D6 217 [strs r,AV.list 3 (w.map B1.cs)] (strs (AI4 (r++O8 w))):=
  J5 (DR1 r w hr hw) fun v _=>K2 (i6.2 rfl) G3
theorem Bl5 (r:List Str)(w:List B1)(hr:r.length≤400000)(hw:w.length≤400000):D6 163 [strs r,AV.list 3 (w.map B1.cs)] (strs (AI4 (r++O8 w))):=by
  rw[CZ8];exact J5 (Ct5 r w hr hw) fun v _=>K2 (i6.2 rfl) G3
theorem Bl6 (l ks:List Str)(hk:ks.length≤1000000):D6 162 [strs l,strs ks] (ints (Ao6 l ks)):=by
 refine B0 func162 rfl ntmps162 rfl ?_;refine R2 ?_;refine zq70 ?_;refine R3 ?_;refine zq70 ?_;refine R9 ?_;refine E8 [(0,_),(4,_),(8,_),(9,_)] _ (fun (i:Nat)=>i≤ks.length) (fun i=>[]) (fun i=>[(5,ints (Ao6 l (ks.take i))),(10,AV.int i)]) (fun i=>ks.length-i) (0) ?_ (G2 A6) ?_
 ·exact E4 _
 intro i hinv;refine zK ?_ ?_
 ·intro h11 k11;have hlt:i<ks.length:=by omega
  obtain⟨x,hx⟩:=B2 hlt;have hle:=Az7 l (ks.take i);rw[H0]at hle;refine zq72 ?_;refine R7 ?_;refine zF rfl call96 (Ae1 _ _) F3 ?_;refine zF rfl call229 (DT9 _ _ qz7) (A2 (A0 rfl) (A2 (A0 rfl) A9)) ?_;refine R6 ?_;refine F1 i (i+1) ?_ ?_ (G2 ⟨(F2 (fun z=>some (ints z)) (DF6 hx).symm),rfl,rfl,rfl,rfl,rfl,trivial⟩)
  ·exact qz7
  omega
 intro h11 k11;have hge:ks.length≤i:=by omega
 rw[S7 hge];exact zq216
theorem DF8 (l:List Str)(r:List Str)(w:List B1)(hr:r.length≤300000)(hw:D2 B1.size w≤300000):M0 150 [strs l,strs r,AV.list 3 (w.map B1.cs)] [] (fun _:Value=>True) (fun v=>[.arr v 3 1 ((cmpL ((AI4 (r++O8 w)).map fun k=>(w4 l k:Int))).map fun n=>[AV.int n])]) (fun v=>AV.is v):=by
 have hkl:=Af9 (r++O8 w);have hwl:=M7 (f:=B1.size) (l:=w);rw[I2,DT6]at hkl;refine C8 func150 rfl ntmps150 rfl ?_;refine zq149 ?_;refine S3 rfl rfl rfl rfl D3 E9 ?_;intro v10;refine R7 ?_;refine zF rfl call217 (DF7 r w qz7 qz7) F3 ?_;refine R4 ?_;refine zL [0] ?_;refine K5 [(0,_),(6,_),(13,_),(14,_)] _ (fun (i:Nat) (v:Value)=>i≤(AI4 (r++O8 w)).length) (fun i v=>[.arr v 3 1 ((((AI4 (r++O8 w)).take i).map fun k=>(w4 l k:Int)).map fun n=>[AV.int n])]) (fun i v=>[(7,AV.is v),(15,AV.int i)]) (fun i v=>(AI4 (r++O8 w)).length-i) (0) (v10) ?_ (I1 B7 A6) ?_
 ·exact E4 _
 intro i v hinv;refine zK ?_ ?_
 ·intro h16 k16;have hlt:i<(AI4 (r++O8 w)).length:=by omega
  obtain⟨x,hx⟩:=B2 hlt;refine zq72 ?_;refine R7 ?_;refine zF rfl call79 (Br9 _ _) F3 ?_;refine R1 ?_;refine I0 (by':=8) 0 rfl rfl rfl rfl D3 type3 rfl rfl rfl rfl rfl rfl zA zA rfl qz1 ?_;intro v24_1;refine R6 ?_;refine H5 i v (i+1) (v24_1) ?_ ?_ (Le.trans (B4 [0] rfl) (I1 (by first|rfl|(rw[X3,hx,Y3,Y3];rfl)) A6))
  ·exact qz7
  omega
 intro h16 k16;have hge:(AI4 (r++O8 w)).length≤i:=by omega
 rw[S7 hge];refine R4 ?_;refine zI [0] rfl call218 (CU3 v _ BF8) (A2 (A0 rfl) A9) rfl ?_;intro x27 ok27;refine R3 ?_;exact I9 [0] x27 (trivial) rfl B7 Q4
end Go.PQ
namespace Go.PQ
open Go.Proofs Go.Proofs.Tryz
open Go Go.AV Go.M
attribute [local irreducible] OpW OpA OpS AWP J6 L6 K3 OpE K4 I5 L0 Le Ev G4 L9 Int.tmod IntKind.wrap T3
theorem CL3 (b:Nat)(code:List Int)(hcode:AJ3 code)(c:w6)(l:List Str)(hl:1≤l.length∧l.length≤1000)(hp:c.p≤7000000):M0 171 [AV.ptr b 0,strs l] [.box b 77 (q8 code c)] (fun x:w6×Str=>x.1.p≤c.p+2∧x.2∈l) (fun x=>[.box b 77 (q8 code x.1)]) (fun x=>AV.str x.2):=by
  obtain⟨hl1,hl2⟩:=hl;refine C8 func171 rfl ntmps171 rfl ?_;refine zq185 ?_;refine R7 ?_;refine zI [0] rfl call32 (V4 _ _ hcode _ _ AE8 qz7) (A2 (A0 rfl) (A2 (A0 rfl) A9)) rfl ?_;intro x9 ok9;simp only[A8]at ok9;obtain⟨y,hy⟩:=B2 (show x9.2.toNat<l.length by omega);refine A1 rfl (C2 rfl E2 I6 zA zA hy qz7) ?_;refine R4 ?_
  (refine I9 [0] ((_,_)) ?_ rfl z8 Q4;exact⟨ok9.1,C3 hy⟩)
theorem Bz9 (b:Nat)(code:List Int)(hcode:AJ3 code)(c:w6)(hp:c.p≤6000000):M0 106 [AV.ptr b 0] [.box b 77 (q8 code c)] (fun x:w6×Str=>x.1.p≤c.p+2∧x.2∈AI5) (fun x=>[.box b 77 (q8 code x.1)]) (fun x=>AV.str x.2):=by
  refine C8 func106 rfl ntmps106 rfl ?_;refine zq185 ?_;refine R4 ?_;refine A1 rfl (AL3 rfl E2 I6 zeroValue9 rfl rfl rfl rfl (B6 (O9 (l:=[97]) rfl) (j4 _) (B6 (O9 (l:=[98]) rfl) (j4 _) (B6 (O9 (l:=[99]) rfl) (j4 _) (B6 (O9 (l:=[109]) rfl) (j4 _) (B6 (O9 (l:=[110]) rfl) (j4 _) (B6 (O9 (l:=[122]) rfl) (j4 _) (B6 (O9 (l:=[114,47,49]) rfl) (j4 _) (B6 (O9 (l:=[105,47,120,47,49]) rfl) (j4 _) N6)))))))) rfl rfl) ?_;refine zI [0] rfl call171 (CL3 _ _ hcode _ AI5 E5 qz7) (A2 (A0 rfl) (A2 (A0 rfl) A9)) rfl ?_;intro x5 ok5;refine R3 ?_
  (refine I9 [0] ((_,_)) ?_ rfl z8 Q4;exact ok5)
theorem CA0 (b:Nat)(code:List Int)(hcode:AJ3 code)(c:w6)(hp:c.p≤6000000):M0 233 [AV.ptr b 0] [.box b 77 (q8 code c)] (fun x:w6×Str=>x.1.p≤c.p+2∧x.2∈valD) (fun x=>[.box b 77 (q8 code x.1)]) (fun x=>AV.str x.2):=by
  refine C8 func233 rfl ntmps233 rfl ?_;refine zq185 ?_;refine R4 ?_;refine A1 rfl (AL3 rfl E2 I6 zeroValue9 rfl rfl rfl rfl (B6 (O9 (l:=[]) rfl) (j4 _) (B6 (O9 (l:=[49]) rfl) (j4 _) (B6 (O9 (l:=[55]) rfl) (j4 _) (B6 (O9 (l:=[49,48]) rfl) (j4 _) (B6 (O9 (l:=[45,51]) rfl) (j4 _) (B6 (O9 (l:=[120]) rfl) (j4 _) (B6 (O9 (l:=[97,44,98,95,99]) rfl) (j4 _) N6))))))) rfl rfl) ?_;refine zI [0] rfl call171 (CL3 _ _ hcode _ valD E5 qz7) (A2 (A0 rfl) (A2 (A0 rfl) A9)) rfl ?_;intro x5 ok5;refine R3 ?_
  (refine I9 [0] ((_,_)) ?_ rfl z8 Q4;exact ok5)
attribute [local irreducible] Int.tdiv
theorem DU0 (b:Nat)(code:List Int)(hcode:AJ3 code)(c:w6)(hp:c.p≤5000000):M0 170 [AV.ptr b 0] [.box b 77 (q8 code c)] (fun x:w6×TOp=>x.1.p≤c.p+10∧OpD x.2) (fun x=>[.box b 77 (q8 code x.1)]) (fun x=>AV.agg x.2.cs):=by
 refine C8 func170 rfl ntmps170 rfl ?_;refine R3 ?_;intro b2;refine R4 ?_;refine zq61 ?_;intro x5 ok5;refine R2 ?_;refine zI [0] rfl call106 (Bz9 _ _ hcode _ qz7) (A2 (A0 rfl) A9) rfl ?_;intro x8 ok8;refine R2 ?_;intro b3;refine zC ?_ ?_
 ·intro h12;have k12:=J9 h12;(try simp only[A8]at k12);refine zC ?_ ?_
  ·intro h12;have k12:=J9 h12;(try simp only[A8]at k12);refine R2 ?_;refine zI [1] rfl call233 (CA0 _ _ hcode _ qz7) (A2 (A0 rfl) A9) rfl ?_;intro x16 ok16;refine R9 ?_
   (refine I9 [0] ((x16.1,⟨1+x5.2,x8.2,x16.2,0⟩)) ?_ rfl z8 (O2 rfl (F5 (ys:=_) 2 rfl rfl AJ9 Z1 rfl));(dsimp only;first|exact⟨by omega,Aj6 ⟨by omega,by omega⟩ BX9 ok8.2 ok16.2⟩|exact⟨by omega,An9 ⟨by omega,by omega⟩ BX8 ok8.2 BY1⟩|exact⟨by omega,Ar8 ⟨by omega,by omega⟩ ok8.2⟩))
  intro h12;have k12:=J4 h12;(try simp only[A8]at k12);refine zC ?_ ?_
  ·intro h18;have k18:=J9 h18;(try simp only[A8]at k18);refine zC ?_ ?_
   ·intro h18;have k18:=J9 h18;(try simp only[A8]at k18);refine zq37 ?_;intro x23 ok23;refine R9 ?_
    (refine I9 [0] ((x23.1,⟨1+x5.2,x8.2,[],x23.2⟩)) ?_ rfl z8 (O2 rfl (F5 (ys:=_) 2 rfl rfl AJ9 Z1 rfl));(dsimp only;first|exact⟨by omega,Aj6 ⟨by omega,by omega⟩ BX9 ok8.2 ok16.2⟩|exact⟨by omega,An9 ⟨by omega,by omega⟩ BX8 ok8.2 BY1⟩|exact⟨by omega,Ar8 ⟨by omega,by omega⟩ ok8.2⟩))
   intro h18;have k18:=J4 h18;(try simp only[A8]at k18);refine R7 ?_
   (refine I9 [1] ((x8.1,⟨1+x5.2,x8.2,[],0⟩)) ?_ rfl z8 (O2 rfl (F5 (ys:=_) 2 rfl rfl AJ9 Z1 rfl));(dsimp only;first|exact⟨by omega,Aj6 ⟨by omega,by omega⟩ BX9 ok8.2 ok16.2⟩|exact⟨by omega,An9 ⟨by omega,by omega⟩ BX8 ok8.2 BY1⟩|exact⟨by omega,Ar8 ⟨by omega,by omega⟩ ok8.2⟩))
  intro h18;have k18:=J4 h18;(try simp only[A8]at k18);refine zC ?_ ?_
  ·intro h18;have k18:=J9 h18;(try simp only[A8]at k18);refine zq37 ?_;intro x23 ok23;refine R9 ?_
   (refine I9 [0] ((x23.1,⟨1+x5.2,x8.2,[],x23.2⟩)) ?_ rfl z8 (O2 rfl (F5 (ys:=_) 2 rfl rfl AJ9 Z1 rfl));(dsimp only;first|exact⟨by omega,Aj6 ⟨by omega,by omega⟩ BX9 ok8.2 ok16.2⟩|exact⟨by omega,An9 ⟨by omega,by omega⟩ BX8 ok8.2 BY1⟩|exact⟨by omega,Ar8 ⟨by omega,by omega⟩ ok8.2⟩))
  intro h18;have k18:=J4 h18;(try simp only[A8]at k18);refine R7 ?_
  (refine I9 [1] ((x8.1,⟨1+x5.2,x8.2,[],0⟩)) ?_ rfl z8 (O2 rfl (F5 (ys:=_) 2 rfl rfl AJ9 Z1 rfl));(dsimp only;first|exact⟨by omega,Aj6 ⟨by omega,by omega⟩ BX9 ok8.2 ok16.2⟩|exact⟨by omega,An9 ⟨by omega,by omega⟩ BX8 ok8.2 BY1⟩|exact⟨by omega,Ar8 ⟨by omega,by omega⟩ ok8.2⟩))
 intro h12;have k12:=J4 h12;(try simp only[A8]at k12);refine zC ?_ ?_
 ·intro h12;have k12:=J9 h12;(try simp only[A8]at k12);refine R2 ?_;refine zI [1] rfl call233 (CA0 _ _ hcode _ qz7) (A2 (A0 rfl) A9) rfl ?_;intro x16 ok16;refine R9 ?_
  (refine I9 [0] ((x16.1,⟨1+x5.2,x8.2,x16.2,0⟩)) ?_ rfl z8 (O2 rfl (F5 (ys:=_) 2 rfl rfl AJ9 Z1 rfl));(dsimp only;first|exact⟨by omega,Aj6 ⟨by omega,by omega⟩ BX9 ok8.2 ok16.2⟩|exact⟨by omega,An9 ⟨by omega,by omega⟩ BX8 ok8.2 BY1⟩|exact⟨by omega,Ar8 ⟨by omega,by omega⟩ ok8.2⟩))
 intro h12;have k12:=J4 h12;(try simp only[A8]at k12);refine zC ?_ ?_
 ·intro h18;have k18:=J9 h18;(try simp only[A8]at k18);refine zC ?_ ?_
  ·intro h18;have k18:=J9 h18;(try simp only[A8]at k18);refine zq37 ?_;intro x23 ok23;refine R9 ?_
   (refine I9 [0] ((x23.1,⟨1+x5.2,x8.2,[],x23.2⟩)) ?_ rfl z8 (O2 rfl (F5 (ys:=_) 2 rfl rfl AJ9 Z1 rfl));(dsimp only;first|exact⟨by omega,Aj6 ⟨by omega,by omega⟩ BX9 ok8.2 ok16.2⟩|exact⟨by omega,An9 ⟨by omega,by omega⟩ BX8 ok8.2 BY1⟩|exact⟨by omega,Ar8 ⟨by omega,by omega⟩ ok8.2⟩))
  intro h18;have k18:=J4 h18;(try simp only[A8]at k18);refine R7 ?_
  (refine I9 [1] ((x8.1,⟨1+x5.2,x8.2,[],0⟩)) ?_ rfl z8 (O2 rfl (F5 (ys:=_) 2 rfl rfl AJ9 Z1 rfl));(dsimp only;first|exact⟨by omega,Aj6 ⟨by omega,by omega⟩ BX9 ok8.2 ok16.2⟩|exact⟨by omega,An9 ⟨by omega,by omega⟩ BX8 ok8.2 BY1⟩|exact⟨by omega,Ar8 ⟨by omega,by omega⟩ ok8.2⟩))
 intro h18;have k18:=J4 h18;(try simp only[A8]at k18);refine zC ?_ ?_
 ·intro h18;have k18:=J9 h18;(try simp only[A8]at k18);refine zq37 ?_;intro x23 ok23;refine R9 ?_
  (refine I9 [0] ((x23.1,⟨1+x5.2,x8.2,[],x23.2⟩)) ?_ rfl z8 (O2 rfl (F5 (ys:=_) 2 rfl rfl AJ9 Z1 rfl));(dsimp only;first|exact⟨by omega,Aj6 ⟨by omega,by omega⟩ BX9 ok8.2 ok16.2⟩|exact⟨by omega,An9 ⟨by omega,by omega⟩ BX8 ok8.2 BY1⟩|exact⟨by omega,Ar8 ⟨by omega,by omega⟩ ok8.2⟩))
 intro h18;have k18:=J4 h18;(try simp only[A8]at k18);refine R7 ?_
 (refine I9 [1] ((x8.1,⟨1+x5.2,x8.2,[],0⟩)) ?_ rfl z8 (O2 rfl (F5 (ys:=_) 2 rfl rfl AJ9 Z1 rfl));(dsimp only;first|exact⟨by omega,Aj6 ⟨by omega,by omega⟩ BX9 ok8.2 ok16.2⟩|exact⟨by omega,An9 ⟨by omega,by omega⟩ BX8 ok8.2 BY1⟩|exact⟨by omega,Ar8 ⟨by omega,by omega⟩ ok8.2⟩))
theorem DF9 (b:Nat)(code:List Int)(hcode:AJ3 code)(c:w6)(hp:c.p≤4000000):M0 103 [AV.ptr b 0] [.box b 77 (q8 code c)] (fun x:w6×List TOp×Value=>x.1.p≤c.p+100∧(1≤x.2.1.length∧x.2.1.length≤4)∧∀o∈x.2.1,OpD o) (fun x=>[.box b 77 (q8 code x.1),.arr x.2.2 92 4 (x.2.1.map TOp.cs)]) (fun x=>AV.is x.2.2):=by
 refine C8 func103 rfl ntmps103 rfl ?_;refine zq149 ?_;refine n1 92 4 rfl rfl rfl rfl L2 ?_;intro v3;refine R5 ?_;refine zq61 ?_;intro x7 ok7;obtain⟨n0,hn0⟩:∃n0:Nat,x7.2=n0:=⟨x7.2.toNat,by omega⟩;refine R4 ?_;refine zL [0,0] ?_;refine Ab2 [(0,_),(2,_)] _ (fun (n:Nat) (cc:w6) (l:List TOp) (v:Value)=>n+l.length=1+n0∧cc.p≤c.p+2+14*l.length∧∀o∈l,OpD o) (fun n cc l v=>[.box b 77 (q8 code cc),.arr v 92 4 (l.map TOp.cs)]) (fun n cc l v=>[(3,AV.is v),(4,AV.int n)]) (fun n cc l v=>n) (1+n0) (x7.1) ([]) (v3) ?_ (I1 B7 ⟨rfl,F2 (fun z=>some (AV.int z)) qz7,rfl,rfl,trivial⟩) ?_
 ·exact⟨rfl,by simp;omega,fun o h=>by cases h⟩
 intro n cc l v hinv;refine zK ?_ ?_
 ·intro h10 k10;have hll:l.length≤4:=by omega
  refine R6 ?_;refine zI [0] rfl call170 (DU0 _ _ hcode _ qz7) (A2 (A0 rfl) A9) rfl ?_;intro x14 ok14;refine R1 ?_;intro b5;refine R20 ?_;refine Am6 rfl rfl (Q3 rfl rfl rfl) ?_ ?_
  ·intro gh30;refine zI [1] rfl call31 (CJ4 _ _ hcode _ _ qz7 qz7) (A2 (A7 rfl gh30) (A2 L1 A9)) rfl ?_;intro x30 ok30;refine zC ?_ ?_
   ·intro h32;refine zL [1,1,0] ?_;refine zq95 ?_;intro x36 ok36;refine R9 ?_;refine I0 (by':=48) 1 rfl rfl rfl rfl U6 type92 rfl rfl rfl rfl rfl rfl zA zA rfl qz1 ?_;intro v42_1;refine R7 ?_;refine AF1 n cc l v (n-1) (x36.1) (l++[⟨4,x14.2.Key,[],1+x36.2⟩]) (v42_1) ?_ ?_ (Le.trans (B4 [0,1,0] rfl) (D5 1 qz86 ⟨rfl,F2 (fun z=>some (AV.int z)) qz7,rfl,rfl,trivial⟩))
    ·exact⟨by rw[I2,J7,T5];omega,by rw[I2,J7,T5];omega,fun o ho=>(y6.1 ho).elim (hinv.2.2 o) fun e=>by (rw[i6.1 e];exact An9 ⟨by decide,by decide⟩ rfl ok14.2.2.1 ⟨by omega,by omega⟩)⟩
    omega
   intro h32;refine R5 ?_;refine I0 (by':=48) 2 rfl rfl rfl rfl U6 type92 rfl rfl rfl rfl rfl rfl zA zA rfl qz1 ?_;intro v42_2;refine R7 ?_;refine AF1 n cc l v (n-1) (x30.1) (l++[x14.2]) (v42_2) ?_ ?_ (Le.trans (B4 [1,0,0] rfl) (D5 1 qz86 ⟨rfl,F2 (fun z=>some (AV.int z)) qz7,rfl,rfl,trivial⟩))
   ·exact⟨by rw[I2,J7,T5];omega,by rw[I2,J7,T5];omega,fun o ho=>(y6.1 ho).elim (hinv.2.2 o) fun e=>by rw[i6.1 e];exact ok14.2⟩
   omega
  intro gh30;refine Am6 rfl rfl (Q3 rfl rfl rfl) (fun hq=>by rw[gh30]at hq;cases hq) (fun _=> ?_);refine A1 rfl (Cl6 rfl zA (Bv5 (x:=AV.bool false) gh30)) ?_;refine zC ?_ ?_
  ·intro h32;refine zL [0,1,0] ?_;refine zq95 ?_;intro x36 ok36;refine R9 ?_;refine I0 (by':=48) 1 rfl rfl rfl rfl U6 type92 rfl rfl rfl rfl rfl rfl zA zA rfl qz1 ?_;intro v42_3;refine R7 ?_;refine AF1 n cc l v (n-1) (x14.1) (l++[x14.2]) (v42_3) ?_ ?_ (Le.trans (B4 [0,1,0] rfl) (D5 1 qz86 ⟨rfl,F2 (fun z=>some (AV.int z)) qz7,rfl,rfl,trivial⟩))
   ·exact⟨by rw[I2,J7,T5];omega,by rw[I2,J7,T5];omega,fun o ho=>(y6.1 ho).elim (hinv.2.2 o) fun e=>by rw[i6.1 e];exact ok14.2⟩
   omega
  intro h32;refine R5 ?_;refine I0 (by':=48) 2 rfl rfl rfl rfl U6 type92 rfl rfl rfl rfl rfl rfl zA zA rfl qz1 ?_;intro v42_4;refine R7 ?_;refine AF1 n cc l v (n-1) (x14.1) (l++[x14.2]) (v42_4) ?_ ?_ (Le.trans (B4 [0,0,0] rfl) (D5 1 qz86 ⟨rfl,F2 (fun z=>some (AV.int z)) qz7,rfl,rfl,trivial⟩))
  ·exact⟨by rw[I2,J7,T5];omega,by rw[I2,J7,T5];omega,fun o ho=>(y6.1 ho).elim (hinv.2.2 o) fun e=>by rw[i6.1 e];exact ok14.2⟩
  omega
 intro h10 k10;refine R7 ?_
 (refine I9 [0,0] ((cc,l,v)) ?_ rfl z8 Q4;exact⟨show cc.p≤_ by omega,⟨show 1≤l.length by omega,show l.length≤4 by omega⟩,hinv.2.2⟩)
end Go.PQ
namespace Go.PQ
open Go.Proofs Go.Proofs.Tryz
open Go Go.AV Go.M
attribute [local irreducible] OpW OpA OpS AWP J6 L6 K3 OpE K4 I5 L0 Le Ev G4 L9 Y8 Int.tmod Int.tdiv IntKind.wrap
theorem Cw3 (k:Int):D6 237 [AV.int k] (AV.bool (Aj7 k)):=by
  refine B0 func237 rfl ntmps237 rfl ?_;refine R15 ?_;exact zq16
theorem DG0 (k:Int):D6 238 [AV.int k] (AV.bool (As2 k)):=by
  refine B0 func238 rfl ntmps238 rfl ?_;refine R15 ?_;exact zq16
theorem DU1 (o:TOp)(hs:o.size≤1048576):D6 175 [AV.agg o.cs] (AV.bool (BB2 o)):=by
  have hs':=hs;unfold TOp.size at hs';refine B0 func175 rfl ntmps175 rfl ?_;refine R3 ?_;intro b1;refine R6 ?_;refine zq202 ?_;refine R3 ?_;refine L5 rfl (fun hc=>zG rfl call172 (Az2 _ qz7) (A2 (A7 rfl hc) A9)) ?_;refine R4 ?_;refine L5 rfl (fun hc=>zG rfl call236 (Bp8 _ qz7) (A2 (A7 rfl hc) A9)) ?_;refine R4 ?_;refine L5 rfl (fun hc=>zG rfl call237 (Cw3 _) zS) ?_;refine R3 ?_;refine AF2 rfl rfl (CB4 rfl rfl rfl) (fun hc=>Al9 rfl (A7 rfl hc) (O9 (l:=[]) rfl)) ?_;refine R5 ?_;refine L5 rfl (fun hc=>zG rfl call29 (Z0 _ _ _) (A2 (A7 rfl hc) AT1)) ?_;refine R4 ?_;refine L5 rfl (fun hc=>zG rfl call238 (DG0 _) zS) ?_;refine R9 ?_;exact zq16
theorem CU4 (c:TOp)(hs:c.size≤1048576):D6 174 [AV.agg c.cs] (AV.bool (!BB2 c)):=by
  refine B0 func174 rfl ntmps174 rfl ?_;refine R3 ?_;intro b1;refine R5 ?_;refine zF rfl call175 (DU1 _ X9) (A2 (A0 rfl) A9) ?_;exact zq114
theorem Ch5 (l:List TOp)(hs:D2 TOp.size l≤1048576):D6 109 [AV.list 4 (l.map TOp.cs)] (AV.bool (n8 l)):=by
  have hm:∀x∈l,x.size≤1048576:=fun x hx=>L7 (Af8 hx) hs;refine B0 func109 rfl ntmps109 rfl ?_;refine R11 ?_;refine L5 rfl (fun hc=>zG rfl call173 (Bm7 _ _ _ Au5) (A2 (A7 rfl hc) (A2 (BC6 call174 (fun c h=>CU4 c h)) A9))) ?_;refine R5 ?_;exact D1 rfl (A5 rfl (by exact F2 AV.bool (by simp only[A8];rfl)))
theorem DG1 (n:Int):D6 198 [AV.int n] (AV.bool (isTxn n)):=by
  refine B0 func198 rfl ntmps198 rfl ?_;refine R7 ?_;refine zq202 ?_;exact zq158
theorem Cw4 (x:G9)(hs:x.Key.length≤4611686018427387904):D6 130 [AV.agg x.cs] (AV.bool (BK3 x)):=by
  refine B0 func130 rfl ntmps130 rfl ?_;refine R3 ?_;intro b1;refine R6 ?_;refine zF rfl call172 (Az2 _ qz7) (A2 (A0 rfl) A9) ?_;refine R3 ?_;refine L5 rfl (fun hc=>zG rfl call198 (DG1 _) zS) ?_;exact zq114
theorem Ch6 (x:G9)(hs:x.Key.length≤4611686018427387904):D6 156 [AV.agg x.cs] (AV.bool (BK3 x)):=by
  refine B0 func156 rfl ntmps156 rfl ?_;refine R3 ?_;intro b1;refine R6 ?_;refine zq135 ?_;refine R3 ?_;refine L5 rfl (fun hc=>zG rfl call87 (T7 _ _ _) (A2 (A7 rfl hc) AT1)) ?_;refine R4 ?_;exact D1 rfl (A5 rfl (by exact F2 AV.bool (by unfold BK3 isTxn;rw[AK7])))
theorem Cw5 (x y:G9):D6 133 [AV.agg x.cs,AV.agg y.cs] (AV.bool (As3 x y)):=by
  refine B0 func133 rfl ntmps133 rfl ?_;refine R3 ?_;intro b2;refine R1 ?_;intro b3;refine R27 ?_;exact zq16
theorem CE4 (x y:G9):D6 132 [AV.agg y.cs,AV.eptr x.cs] (AV.bool (BL8 x y)):=by
  refine B0 func132 rfl ntmps132 rfl ?_;refine R3 ?_;intro b2;refine R6 ?_;refine zF rfl call133 (Cw5 _ _) F3 ?_;refine R17 ?_;exact zq16
theorem bool_naG :∀{a b:Bool},(!a||b)=true→(a&& !b)=false:=by decide
theorem CL4 (l:List G9)(hs:D2 G9.size l≤4194304):D6 59 [AV.list 3 (l.map G9.cs)] (AV.bool (AU9 l)):=by
 have hl:l.length≤4194304:=L7 M7 hs;refine B0 func59 rfl ntmps59 rfl ?_;refine R12 ?_;refine E8 [(0,_),(5,_),(6,_)] _ (fun (i:Nat)=>i≤l.length∧AN1 [] l=AN1 (l.take i) (l.drop i)) (fun i=>[]) (fun i=>[(7,AV.int i)]) (fun i=>l.length-i) (0) ?_ (G2 A6) ?_
 ·exact zq4
 intro i hinv;refine zK ?_ ?_
 ·intro h8 k8;have hlt:i<l.length:=by omega
  obtain⟨x,hx⟩:=B2 hlt;have hxs:x.Key.length≤4194304:=L7 (W4 (f:=G9.size) hx) hs;refine R6 ?_;refine A1 rfl (C2 rfl V2 u5 zA zA hx qz1) ?_;refine R2 ?_;intro b4;refine R6 ?_;refine zF rfl call130 (Cw4 _ qz7) (A2 (A0 rfl) A9) ?_;refine R4 ?_;refine S0 rfl (fun hc=>AG5 rfl V2 u5 (A7 rfl hc) (A7 rfl hc) qz6 qz6) ?_;refine S0 rfl (fun hc=>Ag8 rfl rfl G6) ?_;refine S0 rfl (fun hc=>n2 rfl call131 rfl (Bb1 _ _ _ Au5) (T9 _) (N7 (evb (A7 rfl hc)) (N7 (AC7 (AV7 0 (A7 rfl hc) rfl) (AL4 call132 (fun y (_:True)=>CE4 _ y))) o8))) ?_;refine zC ?_ ?_
  ·intro h21;have hbad:AN1 [] l=false:=by rw[hinv.2,Ai2 hx,show (BK3 x&& !((l.take i).any (BL8 x)))=false from bool_naG h21];rfl
   refine R5 ?_;exact D1 rfl (A5 rfl qz58)
  intro h21;refine R5 ?_;refine F1 i (i+1) ?_ ?_ (T4 1 A6)
  ·exact⟨by omega,by rw[hinv.2,Ai2 hx];cases ha:BK3 x<;>simp_all⟩
  omega
 intro h8 k8;have hge:l.length≤i:=by omega
 have hgf:AN1 [] l=true:=by rw[hinv.2,r9 hge];rfl
 refine R9 ?_;exact D1 rfl (A5 rfl qz58)
theorem Ch7 (l:List G9)(hs:D2 G9.size l≤4194304):D6 82 [AV.list 3 (l.map G9.cs)] (AV.bool (AU9 l)):=by
 have hl:l.length≤4194304:=L7 M7 hs;refine B0 func82 rfl ntmps82 rfl ?_;refine R12 ?_;refine E8 [(0,_),(7,_),(8,_)] _ (fun (i:Nat)=>i≤l.length∧AN1 [] l=AN1 (l.take i) (l.drop i)) (fun i=>[]) (fun i=>[(9,AV.int i)]) (fun i=>l.length-i) (0) ?_ (G2 A6) ?_
 ·exact zq4
 intro i hinv;have hinv0:=hinv;clear hinv;refine zK ?_ ?_
 ·intro h10 k10;have hlt:i<l.length:=by omega
  obtain⟨x,hx⟩:=B2 hlt;have hxs:x.Key.length≤4194304:=L7 (W4 (f:=G9.size) hx) hs;refine R6 ?_;refine A1 rfl (C2 rfl V2 u5 zA zA hx qz1) ?_;refine R2 ?_;intro b4;refine R7 ?_;refine zF rfl call156 (Ch6 _ qz7) (A2 (A0 rfl) A9) ?_;refine zC ?_ ?_
  ·intro h16;have hbad:AN1 [] l=false:=by rw[hinv0.2,Ai2 hx];simp_all
   refine R5 ?_;exact D1 rfl (A5 rfl qz58)
  intro h16;have hlk:BK3 x=true:=by simpa using h16
  refine R5 ?_;refine A1 rfl (AG5 rfl V2 u5 zA zA qz1 qz1) ?_;refine R4 ?_;refine E8 [(0,_),(3,_),(4,_),(7,_),(8,_),(9,_),(10,_),(11,_),(12,_),(13,_),(14,_),(15,_),(16,_),(17,_),(18,_),(19,_),(20,_)] _ (fun (j:Nat)=>j≤i∧((l.take i).take j).any (BL8 x)=false) (fun j=>[]) (fun j=>[(21,AV.int j)]) (fun j=>i-j) (0) ?_ (G2 A6) ?_
  ·exact zq4
  intro j hinv;refine zK ?_ ?_
  ·intro h22 k22;have hlt2:j<i:=by (rw[H0]at k22;omega)
   obtain⟨y,hy⟩:=B2 (show j<l.length by omega);have hy':(l.take i)[j]? =some y:=by rw[AD6 hlt2,hy]
   refine R5 ?_;refine A1 rfl (C2 rfl V2 u5 zA zA hy' qz1) ?_;refine R2 ?_;intro b6;refine R19 ?_;refine S0 rfl (fun hc=>zG rfl call157 (Bc6 _ _) zS) ?_;refine zC ?_ ?_
   ·intro h41;have hq:BL8 x y=true:=by (unfold BL8;rw[Bool.or_comm];simpa using h41)
    have hbad:AN1 [] l=false:=by rw[hinv0.2,Ai2 hx,show (l.take i).any (BL8 x)=true from List.any_eq_true.2 ⟨y,C3 hy',hq⟩];simp
    refine R5 ?_;exact D1 rfl (A5 rfl qz58)
   intro h41;have hq:BL8 x y=false:=by (unfold BL8;rw[Bool.or_comm];simpa using h41)
   refine R5 ?_;refine F1 j (j+1) ?_ ?_ (T4 1 A6)
   ·exact⟨by omega,by rw[X3,hy',List.any_append,hinv.2];simpa [BL8]using hq⟩
   omega
  intro h22 k22;have hge2:i≤j:=by (rw[H0]at k22;omega)
  have hany:(l.take i).any (BL8 x)=false:=by have:=hinv.2;rwa [S7 CG0]at this
  refine R5 ?_;refine F1 i (i+1) ?_ ?_ (T4 1 A6)
  ·exact⟨by omega,by rw[hinv0.2,Ai2 hx,hlk,hany];rfl⟩
  omega
 intro h10 k10;have hge:l.length≤i:=by omega
 have hgf:AN1 [] l=true:=by rw[hinv0.2,r9 hge];rfl
 refine R9 ?_;exact D1 rfl (A5 rfl qz58)
end Go.PQ
namespace Go.Proofs
open Go.Shelf
def Tryz.atoi_ren :Go.Shelf.Ren:=⟨fun|172=>314|244=>350|245=>351|247=>380|279=>381|280=>382|281=>383|282=>384|287=>400|316=>401|171=>214|205=>402|321=>412|322=>413|243=>261|246=>315|283=>352|284=>353|285=>354|286=>355|129=>272|317=>385|318=>386|319=>387|320=>388|337=>403|338=>404|n=>n,fun|9=>9|3=>3|75=>328|76=>329|4=>4|5=>5|167=>372|37=>22|0=>0|85=>373|2=>2|168=>375|53=>75|175=>387|46=>220|210=>391|127=>399|145=>402|143=>400|21=>21|171=>353|173=>355|212=>379|51=>264|20=>20|213=>380|232=>403|233=>404|80=>155|n=>n,fun|15=>2|16=>3|17=>0|18=>4|19=>5|n=>n⟩
theorem Tryz.atoi :Go.Proofs.LaysC.n172 Tryz.prog Tryz.atoi_ren:=by
  repeat' first|kernel_rfl|(intro w;kernel_rfl)|constructor
end Go.Proofs
namespace Go.PQ
open Go.Proofs
open Go Go.AV Go.M
attribute [local irreducible] OpW OpA OpS AWP J6 L6 K3 OpE K4 I5 L0 Le Ev G4 L9 Int.tmod Int.tdiv IntKind.wrap
def Al6 (w:World):Prop:=tabW w∧(∃tp p,w.var? Tryz.prog "strconv.ErrSyntax" =some #[.iface tp p])∧(∃tp p,w.var? Tryz.prog "strconv.ErrRange" =some #[.iface tp p])
theorem DU2 {W w':World}(h:Al6 W)(hw:RLe (BA8 W) w'):Al6 w':=
  let ⟨h1,⟨t3,p3,h3⟩,⟨t4,p4,h4⟩⟩:=h
  ⟨Dd4 h1 hw,⟨t3,p3,Co9 h3 hw⟩,⟨t4,p4,Co9 h4 hw⟩⟩
theorem De3 (s:Str)(hs:s.length≤1048576):D6 314 [AV.wt Al6 (AV.str s)] (AV.tup [AV.int (AU3 s),AV.errB (AY6 s)]):=
  Co8 fun R w v hr hx hT=>by
    have hsz:(ByteArray.mk s.toArray).size=s.length:=Av7 s;obtain⟨_,⟨t3,p3,h3⟩,⟨t4,p4,h4⟩⟩:=hT;rw[show v=Value.string ⟨s.toArray⟩from hx];rcases ha:Lib.atoiAll s with n|_|_
    · have e1:AU3 s=n:=by unfold AU3;rw[ha]
      have e2:AY6 s=false:=by unfold AY6;rw[ha]
      rw[e1,e2];refine(Any.strconv_Atoi_ok Tryz.atoi ⟨s.toArray⟩ (by rw[hsz];omega) n ha w).mono ?_
      rintro e w' ⟨rfl,hw⟩
      exact⟨_,rfl,⟨_,rfl,m3.cons rfl (m3.cons ⟨fun _=>rfl,fun h=>Ax1⟩ (m3.nil _))⟩,by (rcases hw with rfl|⟨t,rfl⟩);exact DO2 _;exact DB5 _ _ _⟩
    · have e1:AU3 s=0:=by unfold AU3;rw[ha]
      have e2:AY6 s=true:=by unfold AY6;rw[ha]
      rw[e1,e2];refine(Any.strconv_Atoi_syntax_var Tryz.atoi ⟨s.toArray⟩ (by rw[hsz];omega) ha t3 p3 w h3).mono ?_
      rintro e w' ⟨N,rfl,_,_,hb⟩
      exact zq175
    · have e1:AU3 s=Lib.atoiSat s:=by unfold AU3;rw[ha]
      have e2:AY6 s=true:=by unfold AY6;rw[ha]
      rw[e1,e2];refine(Any.strconv_Atoi_range_var Tryz.atoi ⟨s.toArray⟩ (by rw[hsz];omega) ha t4 p4 w h4).mono ?_
      rintro e w' ⟨N,rfl,_,_,hb⟩
      exact zq175
theorem Cw6 (s:Str)(lo hi:Int)(hs:s.length≤1048576):D6 260 [AV.wt Al6 (AV.str s),AV.int lo,AV.int hi] (AV.tup [AV.int (AU4 s lo hi).1,AV.bool (AU4 s lo hi).2]):=by
 refine B0 Tryz.func260 rfl Tryz.ntmps260 rfl ?_;refine zq195 ?_;refine R8 ?_;refine A1 rfl (Ad5 0 rfl rfl Tryz.call314 rfl (De3 s hs) G6 BQ8) ?_;refine R10 ?_;refine A1 rfl (w_errneq rfl E3 zA) ?_;refine R4 ?_;refine S0 rfl (fun hc=>zG rfl Tryz.call29 (Z0 _ _ _) zS) ?_;refine R4 ?_;refine S0 rfl (fun hc=>Ad5 0 rfl rfl Tryz.call214 rfl (Cc6 (AU3 s) (De1 s)) zS BQ8) ?_;refine zC ?_ ?_
 ·intro h29;have he:AU4 s lo hi=(0,false):=D9 h29;rw[he];refine R6 ?_;exact zq111
 intro h29;have he:AU4 s lo hi=(AU3 s,true):=D0 (by rw[h29];decide);rw[he];refine R8 ?_;exact zq111
end Go.PQ
namespace Go.AV
open Go.RowKit (Below)
section
variable {P:Program} {G:Nat→Prop} {n:Nat} {own:List Own}
end
end Go.AV
namespace Go.AV
section
variable {P:Program} {G:Nat→Prop} {n:Nat} {own:List Own} {o:Oper}
theorem sq_copy0 {ops:Array Oper}{rest:List Oper}{env:List (Nat×AV)}{K:I3→Prop}{t e:TypeId}{p q:Operand}{d sz:Nat}{inf:TypeInfo}{v:Value}{es fs:List (List AV)}(i:Nat)(hg:o.guard=none)(ho:o.op= .call {callee:= .builtin .copy,args:=#[p,q],argTypes:=#[t,t]})(hd:o.dst=some d)(hn:Nat.blt d n=true)
    (ht:P.underlying t=some (.slice e)) (hinf:P.info? e=some inf) (hsz:inf.size=sz) (hp:Ev (N4 · env) p (AV.is v)) (hq:L9 own (N4 · env) q sz fs) (hi:own[i]? =some (.arr v e sz es))
    (hk:fs.length≤es.length) (hne:fs≠[]) (c:S1 P G n ops rest ⟨own.set i (.arr v e sz (fs++es.drop fs.length)),(d,AV.int fs.length)::env⟩ K):S1 P G n ops (o::rest) ⟨own,env⟩ K:=fun w0 R0 R a w hs=>by
  obtain⟨_,_,xs,hown,_⟩:=hs.1.owned _ (C3 hi);rcases hown.2 with ⟨h1,hz⟩|⟨g,cap,cur,rfl,hbase,hg',hc1,hm,hcs,htake⟩
  ·rw[hz]at hk;simp at hk;exact absurd hk hne
  · have c':S1 P G n ops rest ⟨own.set i (.arr (slv g es.length cap) e sz (es.take 0++fs++es.drop (0+fs.length))),(d,AV.int fs.length)::env⟩ K:=by
      rw[Nat.zero_add,List.take_zero,AI0];exact c
    exact BD0 (k:=0) (m:=es.length) i hg ho hd hn ht hinf hsz (by rw[BG5];exact hp) hq hi qz7 qz7 hc1 hne c' w0 R0 R a w hs
theorem Cd1 {ops:Array Oper} {E:P3} {t e:TypeId} {p q:Operand} {sz k:Nat} {inf:TypeInfo} {v:Value} {es:List (List AV)} (i:Nat) (ho:o.op= .call {callee:= .builtin .copy,args:=#[p,q],argTypes:=#[t,t]})
    (ht:P.underlying t=some (.slice e)) (hinf:P.info? e=some inf) (hsz:inf.size=sz) (hp:Ev E p (AV.is (Ak7 k sz v))) (hq:Ev E q (AV.is (headV k sz v))) (hi:own[i]? =some (.arr v e sz es)) (hk:k<es.length):
    OpE P G n own ops o E (fun _:Unit=>True) (fun _=>own.set i (.arr v e sz (es.take k++es.take (min k (es.length-k))++es.drop (k+min k (es.length-k))))) (fun _=>AV.int ((min k (es.length-k):Nat):Int)):=
  fun w0 R0 R a w h1 h3 h2=>by
    have e1:a.eval p=_:=Au7 (ops:=ops) hp AV5 h2;have e2:a.eval q=_:=Au7 (ops:=ops) hq AV5 h2;obtain⟨hR,hu,xs,hown,hdc⟩:=h1.owned _ (C3 hi);rcases hown.2 with ⟨h9,hz⟩|⟨g,cap,cur,rfl,hbase,hg',hn,hm,hcs,htake⟩
    ·rw[hz]at hk;simp at hk
    · obtain⟨m,hm9⟩:∃m,min k (es.length-k)=m:=⟨_,rfl⟩
      have hmk:m≤k:=by rw[←hm9];exact Nat.min_le_left _ _
      have hml:m≤es.length-k:=by rw[←hm9];exact Nat.min_le_right _ _
      rw[hm9];have hfl:xs.length=es.length*sz:=hown.1;have hmul1:k*sz+m*sz≤es.length*sz:=by rw[←Nat.add_mul];exact AD0 sz qz7
      have hmul2:es.length*sz≤cap*sz:=AD0 sz hn;have hvl:(xs.take (m*sz)).length=m*sz:=by rw[H0,hfl];omega
      have hfm:(es.take m).length=m:=by rw[H0];omega
      have hfu:∀f∈es.take m,f.length=sz:=fun f hf=>hu f (AZ9 hf);have t1:a.eval p= .slice (some ⟨g,k*sz,none⟩) (es.length-k) (cap-k):=by rw[e1];exact BG6 hk hn
      have t2:a.eval q=slv g k cap:=by rw[e2];exact BG5 g k cap sz
      have hden:w5 R (xs.take (m*sz)) (es.take m).flatten:=by
        rw[AJ4 m hu];exact⟨by simp[hdc.1],fun j u x hu' hx=>hdc.2 j u x (by rw[List.getElem?_take]at hu';split at hu'<;>first|exact hu'|cases hu') (by rw[List.getElem?_take]at hx;split at hx<;>first|exact hx|cases hx)⟩
      have hone:∀u∈xs.take (m*sz),u.oneCell'=true:=fun u hmu=>by
        obtain⟨j,hj⟩:=i5 hmu;have hjl:j<(es.take m).flatten.length:=by rw[←hden.1];exact(G1.1 hj).1
        exact(hden.2 j u _ hj (Q5 hjl)).2
      have hr:=BK8 (P:=P) w t t o.type e g (k*sz) (es.length-k) (cap-k) ⟨g,0,none⟩ k cap cur e (xs.take (m*sz)) ht hinf hg' (by rw[show Nat.min k (es.length-k)=m from hm9,hsz];exact hvl) (fun j u hju=>by
        rw[List.getElem?_take]at hju;split at hju
        · rename_i hjm
          rw[addr_add,Nat.zero_add];rw[←htake,AD6 qz7,Array.getElem?_toList]at hju;simp[World.cell?,hg',hju]
        ·cases hju) (by rw[hvl,hcs];omega) hone
      rw[show Nat.min k (es.length-k)=m from hm9]at hr;have hex:(execOp a.eval o).run P w= .ok (.value (.int .i64 m)) (w.setRow g (cur.toList.take (k*sz)++xs.take (m*sz)++cur.toList.drop (k*sz+(xs.take (m*sz)).length)).toArray):=by
        simp only[execOp,ho,resolve,invoke,builtin,Sem.run_bind,Sem.run_pure,Result.andThen_ok,AM8,m4,List.map_nil,t1,t2,slv,hr,goInt]
      unfold Oper.wp;rw[hex,Oper.upon_value];have hel:(es.take k++es.take m++es.drop (k+m)).length=es.length:=by simp;omega
      refine⟨(),_,R,trivial,rfl,Ag7 h1 hi rfl rfl ⟨hR,fun z hz=> ?_,xs.take (k*sz)++xs.take (m*sz)++xs.drop (k*sz+(xs.take (m*sz)).length),⟨?_,.inr ⟨g,cap,_,by rw[hel],hbase,setRow_heap w g _ _ e _ hg',by rw[hel];exact hn,hm,?_,?_⟩⟩,?_⟩ (AM6 w g _),M9.refl _,rfl⟩
      · rcases y6.1 hz with hz|hz
        · rcases y6.1 hz with hz|hz
          ·exact hu z (AZ9 hz)
          ·exact hfu z hz
        ·exact hu z (List.mem_of_mem_drop hz)
      ·rw[hel];simp only[I2,H0,AB9,hfl];omega
      ·simp only[List.size_toArray,I2,H0,AB9,AH9,hfl,hcs];omega
      · rw[hel,←htake]
        have hvl2:(List.take (m*sz) (cur.toList.take (es.length*sz))).length=m*sz:=by rw[htake];exact hvl
        exact BY4 (by show es.length*sz≤cur.toList.length;simp only[AH9];rw[hcs];exact hmul2) (by rw[hvl2];exact hmul1)
      · have h8:=Bo0 (k:=k) hu hfu
        rw[hfm]at h8;rw[h8];exact Ar3 hdc hden (by rw[w7 hu,w7 hfu,hfm];exact hmul1)
end
end Go.AV
namespace Go.Proofs
open Go.Shelf
def Tryz.mulS_ren :Go.Shelf.Ren:=⟨fun|212=>176|263=>239|264=>240|n=>n,fun|46=>220|51=>264|146=>265|53=>75|148=>267|n=>n,fun|n=>n⟩
theorem Tryz.mulS :Go.Proofs.Lays.n212 Tryz.prog Tryz.mulS_ren:=by
  repeat' first|kernel_rfl|(intro w;kernel_rfl)|constructor
end Go.Proofs
namespace Go.PQ
open Go.Proofs Go.Proofs.Tryz
open Go Go.AV Go.M
attribute [local irreducible] OpW OpA OpS AWP J6 L6 K3 OpE K4 I5 L0 Le Ev G4 L9 Y8 Int.tmod Int.tdiv IntKind.wrap T3
theorem De4 :D6 176 [AV.ik .u64 1,AV.ik .u64 3] (AV.tup [AV.ik .u64 0,AV.ik .u64 3]):=by
  unfold D6 J6;intro R w vs hr hd
  match vs,hd.1 with
  | [v,u],_=>
    have h1:v=Value.int .u64 1:=hd.2 0 v _ rfl rfl;have h2:u=Value.int .u64 3:=hd.2 1 u _ rfl rfl;subst h1;subst h2;refine(Any.bits_Mul Tryz.mulS 1 3 E5 E5 w).mono ?_
    rintro e w' ⟨rfl,rfl⟩
    exact⟨_,R,rfl,⟨_,rfl,m3.cons rfl (m3.cons rfl (m3.nil _))⟩,fun b o hb=>hr b o hb,fun _ _=>rfl,⟨rfl,rfl,rfl,K9 _,fun _ _=>rfl⟩⟩
theorem DG2 (x:List AV):M0 111 [AV.list 3 [x],AV.int 3] [] (fun _:Value=>True) (fun v=>[.arr v 70 3 (List.replicate 3 x)]) (fun v=>AV.is v):=by
 refine C8 func111 rfl ntmps111 rfl ?_;refine zq10 ?_;refine zC ?_ ?_
 ·intro h10;exact absurd h10 E5
 intro h10;refine R5 ?_;refine A1 rfl (Ad1 rfl E3 underlying220 zA) ?_;refine R1 ?_;refine A1 rfl (Ad1 rfl E3 underlying220 zA) ?_;rw[show (((([x]:List (List AV)).length:Nat)):Int)=1 from rfl,wr1,wr3];refine zF rfl call176 (De4) F3 ?_;refine zC ?_ ?_
 ·intro h26;exact absurd h26 E5
 intro h26;refine R4 ?_;refine A1 rfl (Ad1 rfl E3 W8 zA) ?_;rw[wi3];refine DJ1 (by':=40) rfl rfl rfl rfl D4 type70 rfl rfl rfl rfl rfl rfl zA zA qz1 qz1 ?_;intro v30;refine R6 ?_;refine sq_copy0 0 rfl rfl rfl rfl D4 type70 rfl zA (src_list zA) rfl X1 X1 ?_;refine R4 ?_;refine E8 [(4,_),(7,_)] _ (fun (k:Nat)=>1≤k∧k≤3) (fun k=>[.arr v30 70 3 (As6 x k)]) (fun k=>[(8,AV.int k)]) (fun k=>3-k) (1) ?_ (I1 B7 A6) ?_
 ·exact⟨K9 _,by decide⟩
 intro k hinv;refine zK ?_ ?_
 ·intro h37 k37;have hlt:k<3:=(by have h9:=h37;rw[Bi5 qz7]at h9;simp at h9;omega);refine R2 ?_;refine CC2 [] 10 (.pure 0 (.pure 1 (.pure 2 (.pure 4 (.pure 5 (.e2 3 (.e1 6 (.e1 7 (.pure 8 (.pure 9 .nil)))) 6 (.e1 3 (.e1 7 (.pure 8 (.pure 9 .nil)))))))))) E3 E3 rfl BC9 ?_;refine R5 ?_;refine AR7 ?_ ?_
  ·refine F7 rfl rfl rfl (Bg4 (BN0 0 rfl D4 F9 zA rfl zA qz1 qz1)) (fun a _=>qz3) ?_;intro _ _;refine R1 ?_;refine F7 rfl rfl rfl (Bg4 (w_ahiT 0 rfl D4 F9 zA rfl zA qz1 qz1)) (fun a _=>qz3) ?_;intro _ _;refine R1 ?_;refine F7 rfl rfl rfl (Cd1 0 rfl D4 type70 rfl zA zA rfl qz1) (fun a _=>qz3) ?_;intro _ _;refine R4 ?_;refine Al8 ?_;refine F1 k (k+1) ?_ ?_ (Le.trans (B4 [0] rfl) (I1 (by (rw[o5,(BH4 (x:=x) (k:=k) qz7).1];rfl)) ⟨F2 (fun z=>some (AV.int z)) (by rw[o5,(BH4 (x:=x) (k:=k) qz7).2];rfl),rfl,rfl,trivial⟩))
   ·exact qz7
   omega
  refine F7 rfl rfl rfl (Bg4 (w_ahiT 0 rfl D4 F9 zA rfl zA qz1 qz1)) (fun a _=>qz3) ?_;intro _ _;refine R1 ?_;refine F7 rfl rfl rfl (Bg4 (BN0 0 rfl D4 F9 zA rfl zA qz1 qz1)) (fun a _=>qz3) ?_;intro _ _;refine R1 ?_;refine F7 rfl rfl rfl (Cd1 0 rfl D4 type70 rfl zA zA rfl qz1) (fun a _=>qz3) ?_;intro _ _;refine R4 ?_;refine Al8 ?_;refine F1 k (k+1) ?_ ?_ (Le.trans (B4 [0] rfl) (I1 (by (rw[o5,(BH4 (x:=x) (k:=k) qz7).1];rfl)) ⟨F2 (fun z=>some (AV.int z)) (by rw[o5,(BH4 (x:=x) (k:=k) qz7).2];rfl),rfl,rfl,trivial⟩))
  ·exact qz7
  omega
 intro h37 k37;have hk3:k=3:=(by have h9:=h37;rw[Bi5 qz7]at h9;simp at h9;omega);subst hk3;refine R7 ?_;exact I9 [0] v30 (trivial) rfl B7 Q4
theorem Ch8 :M0 42 [AV.int 3] [] (fun _:Value=>True) (fun v=>[.arr v 70 3 (List.replicate 3 [AV.bool true,AV.nils,AV.int 0])]) (fun v=>AV.tup [AV.agg [AV.is v,AV.int 0,AV.int (-1)],AV.bool true]):=by
 refine C8 func42 rfl ntmps42 rfl ?_;refine R3 ?_;intro b2;refine R6 ?_;refine zF rfl call97 (Br6 _) G6 ?_;refine zC ?_ ?_
 ·intro h6;exact absurd h6 E5
 intro h6;refine R6 ?_;refine zI [] rfl call111 (DG2 [AV.bool true,AV.nils,AV.int 0]) F3 rfl ?_;intro x11 ok11;refine O7 0 rfl fun one_x11=> ?_;refine A1 rfl (Q7 (places:=#[(0,1),(1,1),(2,1)]) rfl Y7 zeroValue38 (fun w=>by kernel_rfl) rfl (B6 zA (F6 one_x11) (B6 L1 (X2 _ _) N6)) rfl) ?_;refine R4 ?_;exact I9 [0] x11 (trivial) rfl B7 (j6 rfl E5 (G0 (F5 (ys:=_) 1 rfl rfl K6 C6 rfl) V6))
theorem CU5 :D6 42 [AV.int 3] (AV.tup [AV.agg nG0.cs,AV.bool true]):=
  J5 Ch8 fun v _=>AQ7 (D7 (AO7 (D7 (K2 (i6.2 rfl) nilReps) (D7 H9 (D7 H9 Z6)))) (D7 H9 Z6))
end Go.PQ
namespace Go.AV
open Go
inductive OTn where
  |nil
  |pure (i:Nat) (t:OTn)
  |br (i:Nat) (t:OTn) (u:OTn)
def OTn.heads :OTn→List Nat
  | .br i _ u=>i::u.heads
  |_=>[]
def Au3 (md:Region.Mode)(ops:Array Oper)(g m:Nat):OTn→Bool→Nat→Array Bool→Bool
  | .nil,false,0,listed=>Region.seqB md ops g m listed
  | .pure i r,false,f+1,listed=>(Region.ready md ops listed).contains i&&Region.free md ops listed i&&Nat.blt i m&&Au3 md ops g m r false f (listed.setIfInBounds i true)
  | .br i r u,false,f+1,listed=>decide (Region.ready md ops listed=(OTn.br i r u).heads)&&Nat.blt i m&&Au3 md ops g m r false f (listed.setIfInBounds i true)&&Au3 md ops g m u true (f+1) listed
  | .nil,true,_,_=>true
  | .br i r u,true,f+1,listed=>Nat.blt i m&&Au3 md ops g m r false f (listed.setIfInBounds i true)&&Au3 md ops g m u true (f+1) listed
  |_,_,_,_=>false
def treeBn (md:Region.Mode)(ops:Array Oper)(m:Nat)(ord:OTn):Bool:=
  decide (m<ops.size)&&Region.sinkB md ops m&&Region.chainB md ops m&&Au3 md ops (ops.size-m) m ord false m (Array.replicate ops.size false)
section
variable {P:Program} {G:Nat→Prop} {n:Nat}
def BTn (P:Program)(G:Nat→Prop)(n:Nat)(Inv:List Own→Prop)(ops:Array Oper):OTn→Bool→List (Nat×AV)→List Own→(List (Nat×AV)→List Own→Prop)→Prop
  | .nil,false,env,W,K=>K env W
  | .nil,true,_,_,_=>True
  | .pure i r,_,env,W,K=>∃o,ops[i]? =some o∧∃x,(∀W',Inv W'→OpA P G n W' ops o (N4 · env) x)∧BTn P G n Inv ops r false (BT7 o.dst x env) W K
  | .br i r u,_,env,W,K=>(AY0 P G n Inv ops i env W fun env' W'=>BTn P G n Inv ops r false env' W' K)∧BTn P G n Inv ops u true env W K
theorem DU3 {Inv:List Own→Prop} {md:Region.Mode} {ops:Array Oper} {m g:Nat} {K:List (Nat×AV)→List Own→Prop} (hs:Region.sinkB md ops m=true) (hc:Region.chainB md ops m=true) (hn:m<ops.size) (l:OTn):
    (∀(f:Nat) (listed:Array Bool) (env:List (Nat×AV)) (W:List Own),HeadInv md ops m listed→Inv W→Au3 md ops g m l false f listed=true→BTn P G n Inv ops l false env W K→
      Ae5 P G n Inv md ops m (fun listed' E W=>Region.seqB md ops g m listed'=true∧∃env',E=(N4 · env')∧K env' W) f listed (N4 · env) W)∧
    (∀(f:Nat) (listed:Array Bool) (env:List (Nat×AV)) (W:List Own),HeadInv md ops m listed→Inv W→Au3 md ops g m l true (f+1) listed=true→BTn P G n Inv ops l true env W K→(∀j∈l.heads,j∈Region.ready md ops listed)→
      ∀j∈l.heads,j<m∧qB P G n Inv ops j (Ae5 P G n Inv md ops m (fun listed' E W=>Region.seqB md ops g m listed'=true∧∃env',E=(N4 · env')∧K env' W) f (listed.setIfInBounds j true)) (N4 · env) W):=by
  induction l with
  | nil=>
    refine⟨fun f listed env W inv hW hB h=> ?_,fun f listed env W inv hW hB h hr j hj=>by cases hj⟩
    cases f with
    |zero=>exact⟨hB,env,rfl,h⟩
    |succ f=>cases hB
  | pure i l ih=>
    refine⟨fun f listed env W inv hW hB h=> ?_,fun f listed env W inv hW hB h hr j hj=>by cases hj⟩
    cases f with
    |zero=>cases hB
    | succ f=>
      simp only[Au3,F0]at hB;obtain⟨⟨⟨hr,hf⟩,hlt⟩,hB'⟩:=hB;have hkn:i<m:=Nat.blt_eq.mp hlt;have hr':i∈Region.ready md ops listed:=by simpa using hr
      obtain⟨o,ho,x,hx,hK⟩:=h;refine Ax9 ho hs hc hn hkn (fun listed' E W hL=>seqB_ready hL.1) f listed _ W inv hW (Region.free_spec ho hf) hr' hx ?_;rw[←m9];exact ih.1 f _ _ W (inv.set hr' hkn) hW hB' hK
  | br i l u ih ihu=>
    have key:∀(f:Nat) (listed:Array Bool) (env:List (Nat×AV)) (W:List Own),HeadInv md ops m listed→Inv W→(Nat.blt i m&&Au3 md ops g m l false f (listed.setIfInBounds i true)&&Au3 md ops g m u true (f+1) listed)=true→BTn P G n Inv ops (.br i l u) true env W K→(∀j∈(OTn.br i l u).heads,j∈Region.ready md ops listed)→
        ∀j∈(OTn.br i l u).heads,j<m∧qB P G n Inv ops j (Ae5 P G n Inv md ops m (fun listed' E W=>Region.seqB md ops g m listed'=true∧∃env',E=(N4 · env')∧K env' W) f (listed.setIfInBounds j true)) (N4 · env) W:=fun f listed env W inv hW hB h hr j hj=>by
      simp only[F0]at hB;obtain⟨⟨hlt,hB1⟩,hB2⟩:=hB;have hkn:i<m:=Nat.blt_eq.mp hlt;obtain⟨⟨o,ho,hg,α,ok,W',V,h1,h2,h3⟩,hu⟩:=h;rcases T6.1 hj with e|e
      · subst e
        refine⟨hkn,?_⟩;unfold qB;simp only[ho];refine .inr ⟨hg,α,ok,W',V,h1,h2,fun a ha=> ?_⟩;rw[←m9];exact ih.1 f _ _ (W' a) (inv.set (hr j n4) hkn) (h2 a ha) hB1 (h3 a ha)
      ·exact ihu.2 f listed env W inv hW hB2 hu (fun j hj=>hr j (U5 _ hj)) j e
    refine⟨fun f listed env W inv hW hB h=> ?_,fun f listed env W inv hW hB h=>key f listed env W inv hW hB h⟩
    cases f with
    |zero=>cases hB
    | succ f=>
      simp only[Au3,F0,H6]at hB;obtain⟨⟨⟨hr,hlt⟩,hB1⟩,hB2⟩:=hB;have hk:=key f listed env W inv hW (by simp only[F0];exact⟨⟨hlt,hB1⟩,hB2⟩) h (fun j hj=>by rw[hr];exact hj);refine⟨fun h0=>(by rw[hr]at h0;cases h0),fun j hj=> ?_⟩;rw[hr]at hj;exact hk j hj
theorem CE5 {id:Nat}{l:List Oper}{Q:Exit→I3→Prop}{env:List (Nat×AV)}{own:List Own}(base:List Own)(m:Nat)(ord:OTn)(hm:P.follows .mixedOrders=true)(hB:treeBn .any l.toArray m ord=true)(hd:BX1 n l=true)(hb:AU0 base own)
  (h:BTn P G n (AU0 base) l.toArray ord false env own (fun env' W=>S1 P G n l.toArray (l.drop m) ⟨W,env'⟩ (Q .normal))):AWP P G n (.region id l.toArray true) Q ⟨own,env⟩:=fun w0 R0 R a w ⟨h1,h2,h3,h4⟩=>by
 simp only[treeBn,F0,H6]at hB;obtain⟨⟨⟨hn,hs⟩,hc⟩,hlex⟩:=hB;have hn':m<l.length:=by simpa using hn
 have hdl:(l.drop m).length=l.toArray.size-m:=by simp
 have inv0:HeadInv .any l.toArray m (Array.replicate l.toArray.size false):=
  ⟨by simp,fun j oj _ hl=>Bu7,fun t _ ht=>getD_in BU4 (getD_replicate_false _ _)⟩
 have H:=(DU3 (g:=l.toArray.size-m) hs hc hn ord).1 m _ env own inv0 hb hlex h;refine wp_region_any hm ?_;have:=AT4 (w0:=w0) (R0:=R0) (R00:=R) (g:=l.toArray.size-m) (Q':=fun e a' w'=>∃s' R',Q e s'∧M9 R R'∧St G n w0 R0 s' R' a' w') (fun i o ho d e=>Ag6 hd i o Be0 d e) (fun listed E W R' a' w' g1 g2 g3 g4 g5 hL=>by
  obtain⟨hL1,env',rfl,hL2⟩:=hL
  have:=wpAny_of_seq (P:=P) (md:= .any) (Q':=fun e a' w'=>∃s' R',Q e s'∧M9 R R'∧St G n w0 R0 s' R' a' w') (l.drop m) m listed a' w' (fun j=>by simp[AS1]) Bu4
   (AK6 (R00:=R) (K:=Q .normal) (fun s' R' a w q r1 r2=>⟨s',R',q,r1,r2⟩) _ (⟨W,env'⟩:I3) R' a' w' g1 ⟨g2,g3,g4,g5⟩ hL2)
  rwa [hdl]at this) _ _ _ own R a _ (M9.refl _) (Af3 h1) h2 h3 h4 H
 rw[show m+(l.toArray.size-m)=l.toArray.size by omega]at this;exact this
section
variable {ops:Array Oper} {i j:Nat} {o:Oper} {r u:OTn} {env:List (Nat×AV)} {W:List Own} {base:List Own} {K:List (Nat×AV)→List Own→Prop} {d:Nat} {x:AV} {b:Bool}
theorem AA6 {Inv:List Own→Prop}(h:K env W):BTn P G n Inv ops .nil false env W K:=h
theorem i3 {Inv:List Own→Prop}:BTn P G n Inv ops .nil true env W K:=trivial
theorem Y4 (ho:ops[i]? =some o)(hg:o.guard=none)(hd:o.dst=some d)(h:∀ext,OpW P G n (base++ext) o (N4 · env) x)(k:BTn P G n (AU0 base) ops r false ((d,x)::env) W K):BTn P G n (AU0 base) ops (.pure i r) b env W K:=
  ⟨o,ho,x,fun W' ⟨ext,e⟩=>by subst e;exact Av6 hg (h ext),by rw[hd];exact k⟩
theorem T0 {Inv:List Own→Prop}(h:AY0 P G n Inv ops i env W fun env' W'=>BTn P G n Inv ops r false env' W' K)(k:BTn P G n Inv ops u true env W K):BTn P G n Inv ops (.br i r u) b env W K:=⟨h,k⟩
end
end
end Go.AV
namespace Go.PQ
open Go.Proofs Go.Proofs.Tryz
open Go Go.AV Go.M
open Go.ChangeShapes Go.WideShapes Go.ChangeAt Go.RowKit
theorem star : "*" ++ "errors.errorString" = "*errors.errorString":=by decide
theorem errRow (u:TypeId)(h:Tryz.prog.typeName? 3 u=some "*errors.errorString"):u=400:=
  typeName_ptr_named (nm:= "errors.errorString") (by rw[star];kernel_rfl) E3 E5 u (by rw[star];exact h)
theorem readW_of {W:World}(hL:laidMet Tryz.prog Go.Proofs.YtddgbffjgkkgiaaGreatDoor.Rows.fnSoundRow.laid W)(hsh:W.ShapedOpen Tryz.prog):Al6 W:=by
  refine⟨Dd5 (laidMet.tail (laidMet.tail hL)),?_,?_⟩
  · have h5:=laidMet.tail (laidMet.tail (laidMet.tail (laidMet.tail hL)))
    obtain⟨a,s,h,_⟩:=laid_sentinel (n:= "strconv.ErrSyntax") (g:=2) (ti:=328) h5 E3 E3 underlying328 errRow underlying400 underlying402 rfl rfl P6 E3 E3;exact⟨_,_,h⟩
  · have h4:=laidMet.tail (laidMet.tail (laidMet.tail hL))
    obtain⟨a,s,h,_⟩:=laid_sentinel (n:= "strconv.ErrRange") (g:=3) (ti:=328) h4 E3 E3 underlying328 errRow underlying400 underlying402 rfl rfl P6 E3 E3;exact⟨_,_,h⟩
end Go.PQ
namespace Go.PQ
open Go.Proofs Go.Proofs.Tryz
open Go Go.Proofs Go.RowKit Go.Shelf Go.M
attribute [local go_sem] Oper.semAt_some
def Ar2 {α:Type}(f:Nat→α)(k:Nat):List α:=(List.range k).map f
theorem Cd2 {α:Type}(f:Nat→α)(k:Nat):Ar2 f (k+1)=Ar2 f k++[f k]:=by simp[Ar2,List.range_succ]
theorem DG3 {α:Type}(f:Nat→α)(k:Nat):(Ar2 f k).length=k:=by simp[Ar2]
def CX3 (v:U0):Value:= .agg #[.int .i64 v.Time,.string ⟨v.Val.toArray⟩,.bool v.Gone]
def Al7 (zs:List U0)(j:Nat):Int×U0:=((zs.length:Int)-1-j,zs[zs.length-1-j]?.getD default)
def Bt9 (W:World)(b off:Nat)(zs:List U0):Prop:=∀j v,zs[j]? =some v→W.cell? ⟨b,off+j*3,none⟩=some (.int .i64 v.Time)∧W.cell? ⟨b,off+j*3+1,none⟩=some (.string ⟨v.Val.toArray⟩)∧W.cell? ⟨b,off+j*3+2,none⟩=some (.bool v.Gone)
theorem Bt9.below {n₀:Nat}{A B:World}{b off:Nat}{zs:List U0}(h:Below n₀ A B)(hb:b<n₀)(k:Bt9 A b off zs):Bt9 B b off zs:=fun j v hv=>
  let ⟨h1,h2,h3⟩:=k j v hv
  ⟨(h.cell (p:=⟨b,_,none⟩) hb).trans h1,(h.cell (p:=⟨b,_,none⟩) hb).trans h2,(h.cell (p:=⟨b,_,none⟩) hb).trans h3⟩
set_option maxRecDepth 100000 in
set_option maxHeartbeats 2000000 in
theorem back1_in (F:Fence) (n:Nat) (hf:F.fn 322) (hro:F.round=none) (hn:1≤n) (l Bs n₀ b off cap:Nat) (zs:List U0) (hreach:zs.length*32≤140737488351232) (hb:b<n₀) (J Jx:List (Int×U0)→World→Prop)
    (hY:∀pre x W,J pre W→pre.length<zs.length→YieldAt F (n-1) Tryz.prog l #[.int .i64 x.1,CX3 x.2] W fun e W'=>
      (e= .returned (.bool true)∧J (pre++[x]) W'∧Below n₀ W W')∨(e= .returned (.bool false)∧Jx (pre++[x]) W'))
    (W:World) (hBs:W.cell? ⟨Bs,0,none⟩=some (.slice (some ⟨b,off,none⟩) zs.length cap)) (hBn:Bs<n₀) (hc:Bt9 W b off zs) (h0:J [] W):
    CallsIn F n Tryz.prog 322 #[.func (.yield l) #[] #[],.pointer (some ⟨Bs,0,none⟩)] W fun e W'=>(∃v,e= .returned v)∧
      ((∃ys,ys=Ar2 (Al7 zs) zs.length∧J ys W')∨(∃pre,(∃k,k≤zs.length∧pre=Ar2 (Al7 zs) k)∧Jx pre W')):=by
  refine callsIn_of_wp func322 rfl hf ?_ hro;simp only[ntmps322,List.size_toArray,J7,T5,Nat.reduceAdd,Nat.reduceSub,Array.replicate_succ,Array.replicate_zero,List.push_toArray,List.append_toArray,AI0,At2]
  gi_wp2
  gi_loopw [3] (fun i wr=>∃k:Nat,k≤zs.length∧i= .int .i64 ((zs.length:Int)-1-k)∧J (Ar2 (Al7 zs) k) wr∧Below n₀ W wr)
    (fun i _=>(RowKit.intOf i+1).toNat)
  case atStart=>exact⟨0,E4 _,by simp,h0,Below.refl _ _⟩
  case round=>
    obtain⟨k,hk,rfl,hJs,hnx⟩:=hrel;have hBs':=(hnx.cell (p:=⟨Bs,0,none⟩) hBn).trans hBs;by_cases hlt:k<zs.length
    · have hz:zs[zs.length-1-k]? =some (Al7 zs k).2:=by unfold Al7;rw[Q5 qz7];rfl
      obtain⟨c1,c2,c3⟩:=(hc.below hnx hb) _ _ hz;obtain⟨fn,tmps,assign,body,hy,hR⟩:=hY _ (Al7 zs k) wr hJs (by rw[DG3];exact hlt);have e0:((zs.length:Int)-1-k).toNat=zs.length-1-k:=by omega
      have hltl:(zs.length:Int)-1-k<zs.length:=by omega
      dsimp only[CX3]at hy;rw[show (Al7 zs k).1=(zs.length:Int)-1-k from rfl]at hy
      gi_wp2
      refine hR.mono ?_
      rintro e W3 (⟨rfl,hJ3,hk3⟩|⟨rfl,hJx3⟩)
      · gi_wp2
        go_roundw
        case rel=>exact⟨k+1,by omega,by simp;omega,by rw[Cd2];exact hJ3,hnx.trans hk3⟩
        case measure=>simp[RowKit.intOf];omega
      · gi_wp2
        refine bodyPost_ret (results_none rfl _ _ _) rfl ?_;exact⟨⟨_,rfl⟩,.inr ⟨_,⟨k+1,by omega,(Cd2 _ _).symm⟩,hJx3⟩⟩
    · obtain rfl:k=zs.length:=by omega
      gi_wp2
      go_end0
      exact⟨⟨_,rfl⟩,.inl ⟨_,rfl,hJs⟩⟩
set_option maxRecDepth 100000 in
set_option maxHeartbeats 1000000 in
theorem Cw7 (F:Fence)(n:Nat)(hf:F.fn 322)(hro:F.round=none)(l Bs cap:Nat)(oa:Option Addr)(J:List (Int×U0)→World→Prop)(W:World)(hBs:W.cell? ⟨Bs,0,none⟩=some (.slice oa 0 cap))(h0:J [] W):
    CallsIn F n Tryz.prog 322 #[.func (.yield l) #[] #[],.pointer (some ⟨Bs,0,none⟩)] W fun e W'=>(∃v,e= .returned v)∧J [] W':=by
  refine callsIn_of_wp func322 rfl hf ?_ hro;simp only[ntmps322,List.size_toArray,J7,T5,Nat.reduceAdd,Nat.reduceSub,Array.replicate_succ,Array.replicate_zero,List.push_toArray,List.append_toArray,AI0,At2]
  gi_wp2
  gi_loopw [3] (fun i wr=>i= .int .i64 (-1)∧J [] wr) (fun _ _=>0)
  case atStart=>exact⟨rfl,h0⟩
  case round=>
    obtain⟨rfl,hJs⟩:=hrel
    gi_wp2
    go_end0
    exact⟨⟨_,rfl⟩,hJs⟩
set_option maxHeartbeats 1000000 in
theorem back_in (F:Fence)(n:Nat)(hf:F.fn 278)(hro:F.round=none)(a:Option Addr)(len cap:Nat)(w:World):
    CallsIn F n Tryz.prog 278 #[.slice a len cap] w fun e w'=>e= .returned (.func (.func 322) #[] #[.pointer (some ⟨w.heap.size,0,none⟩)])∧w'=w.alloc (.cells #[.slice a len cap] 212):=by
  refine callsIn_of_wp func278 rfl hf ?_ hro;simp only[ntmps278,List.size_toArray,J7,T5,Nat.reduceAdd,Nat.reduceSub,Array.replicate_succ,Array.replicate_zero,List.push_toArray,List.append_toArray,AI0,At2]
  gi_wp2
  go_ret
  exact⟨rfl,rfl⟩
def CP7 (n₀:Nat)(W:World)(oa:Option Addr)(zs:List U0):Prop:=zs=[]∨∃b off,oa=some ⟨b,off,none⟩∧b<n₀∧Bt9 W b off zs
theorem DU4 (F:Fence)(n:Nat)(hf:F.fn 322)(hro:F.round=none)(hn:1≤n)(Bs n₀:Nat)(oa:Option Addr)(cap:Nat)(zs:List U0)(hreach:zs.length*32≤140737488351232)(w:World)(hBn:Bs<n₀)(hn₀:n₀≤w.heap.size)
    (hc:w.cell? ⟨Bs,0,none⟩=some (.slice oa zs.length cap)) (hI:CP7 n₀ w oa zs):
    SeqStopsK F n Tryz.prog 322 #[.pointer (some ⟨Bs,0,none⟩)] (fun x:Int×U0=>#[Value.int .i64 x.1,CX3 x.2]) (Below n₀) (fun ys=>ys=Ar2 (Al7 zs) zs.length) (fun pre=>∃k,k≤zs.length∧pre=Ar2 (Al7 zs) k) zs.length w:=fun l J Jx W hW _ _ hY h0=>by
  have hc':=(hW.cell (p:=⟨Bs,0,none⟩) (show Bs<w.heap.size by omega)).trans hc;rcases hI with rfl|⟨b,off,rfl,hb,hcs⟩
  ·exact(Cw7 F n hf hro l Bs cap oa J W hc' h0).mono fun e W' ⟨he,hj⟩=>⟨he,.inl ⟨_,rfl,hj⟩⟩
  ·exact back1_in F n hf hro hn l Bs n₀ b off cap zs hreach hb J Jx hY W hc' hBn (hcs.below (hW.mono hn₀) hb) h0
attribute [local go_sem] Oper.semAt_some
theorem Cw8 (zs:List U0)(k:Nat)(hk:k≤zs.length):(Ar2 (Al7 zs) k).map Prod.snd=zs.reverse.take k:=by
  apply List.ext_getElem
  ·simp[Ar2];omega
  · intro i h1 h2
    have:i<zs.length:=by simp at h2;omega
    simp[Ar2,Al7];rw[Q5 qz7];rfl
theorem val_none {c:B8}{t:Int}(h:∀x∈Ar2 (Al7 c.Vers) c.Vers.length,¬x.2.Time≤t):AE3 c t=([],false):=by
  have e:=Cw8 c.Vers c.Vers.length (K9 _);rw[←List.length_reverse,AO5]at e;unfold AE3;rw[←e,List.length_reverse];have:((Ar2 (Al7 c.Vers) c.Vers.length).map Prod.snd).find? (fun v=>decide (v.Time≤t))=none:=by
    rw[List.find?_eq_none];intro v hv;obtain⟨x,hx,rfl⟩:=n6.1 hv;simpa using h x hx
  rw[this]
theorem val_some {c:B8}{t:Int}{k:Nat}{pre:List (Int×U0)}{x:Int×U0}(hk:k≤c.Vers.length)(he:pre++[x]=Ar2 (Al7 c.Vers) k)(h:∀y∈pre,¬y.2.Time≤t)(hx:x.2.Time≤t):AE3 c t=(x.2.Val,!x.2.Gone):=by
  have e:=Cw8 c.Vers k hk;rw[←he,Y3]at e;have e2:c.Vers.reverse=(pre.map Prod.snd++[x.2])++c.Vers.reverse.drop k:=by
    have:=Ak4 k c.Vers.reverse;rw[←e]at this;exact this.symm
  unfold AE3;have hn:(pre.map Prod.snd).find? (fun v=>decide (v.Time≤t))=none:=by
    rw[List.find?_eq_none];intro v hv;obtain⟨y,hy,rfl⟩:=n6.1 hv;simpa using h y hy
  rw[e2,o7,List.find?_append,hn,Option.none_or,List.singleton_append,List.find?_cons];simp only[W6 hx]
def CP8 (t:Int)(pre:List (Int×U0)):Prop:=∀x∈pre,¬x.2.Time≤t
def OneAt (t:Int)(pre:List (Int×U0))(v:U0):Prop:=∃pre0 i,pre=pre0++[(i,v)]∧CP8 t pre0∧v.Time≤t
theorem DG4 {t:Int}{pre:List (Int×U0)}{x:Int×U0}(h:CP8 t pre)(k:t<x.2.Time):CP8 t (pre++[x]):=fun y hy=>by
  rcases y6.1 hy with e|e
  ·exact h y e
  ·simp at e;subst e;omega
set_option maxRecDepth 100000 in
set_option maxHeartbeats 4000000 in
theorem at_in (F:Fence)(n:Nat)(h1f:F.fn 221)(h2f:F.fn 278)(h3f:F.fn 322)(hro:F.round=none)(hn:6≤n)(c:B8)(t:Int)(oa:Option Addr)(cap:Nat)(hreach:c.Vers.length*32≤140737488351232)(w:World)(hI:CP7 w.heap.size w oa c.Vers):
    CallsIn F n Tryz.prog 221 #[.agg #[.string ⟨c.Key.toArray⟩,.slice oa c.Vers.length cap],.int .i64 t] w fun e W'=>e= .returned (.tuple #[.string ⟨(AE3 c t).1.toArray⟩,.bool (AE3 c t).2])∧Below w.heap.size w W':=by
  have h1:1≤n:=by omega
  refine callsIn_of_wp_marks func221 rfl h1f ?_ hro;simp only[ntmps221,List.size_toArray,J7,T5,Nat.reduceAdd,Nat.reduceSub,Array.replicate_succ,Array.replicate_zero,List.push_toArray,List.append_toArray,AI0,At2]
  gi_wp2_with (gi_at_call 278;refine(back_in F (n-1) h2f hro _ _ _ _).mono ?_;rintro e w' ⟨rfl,rfl⟩)
  have b3:=(((Boxed.new (w.alloc (.cells #[.string ⟨c.Key.toArray⟩,.slice oa c.Vers.length cap] 214)) 3 (.int .i64 t)).alloc (.cells #[.string {data:=#[]}] 9)).alloc (.cells #[.bool false] 4)).alloc (.cells #[.slice oa c.Vers.length cap] 212);have b4:=((Boxed.new ((w.alloc (.cells #[.string ⟨c.Key.toArray⟩,.slice oa c.Vers.length cap] 214)).alloc (.cells #[.int .i64 t] 3)) 9 (.string {data:=#[]})).alloc (.cells #[.bool false] 4)).alloc (.cells #[.slice oa c.Vers.length cap] 212);have b5:=(Boxed.new (((w.alloc (.cells #[.string ⟨c.Key.toArray⟩,.slice oa c.Vers.length cap] 214)).alloc (.cells #[.int .i64 t] 3)).alloc (.cells #[.string {data:=#[]}] 9)) 4 (.bool false)).alloc (.cells #[.slice oa c.Vers.length cap] 212);have bs:=Boxed.new ((((w.alloc (.cells #[.string ⟨c.Key.toArray⟩,.slice oa c.Vers.length cap] 214)).alloc (.cells #[.int .i64 t] 3)).alloc (.cells #[.string {data:=#[]}] 9)).alloc (.cells #[.bool false] 4)) 212 (.slice oa c.Vers.length cap);simp only[World.size_alloc]at b3 b4 b5 bs;have hB0:Below w.heap.size w (((((w.alloc (.cells #[.string ⟨c.Key.toArray⟩,.slice oa c.Vers.length cap] 214)).alloc (.cells #[.int .i64 t] 3)).alloc (.cells #[.string {data:=#[]}] 9)).alloc (.cells #[.bool false] 4)).alloc (.cells #[.slice oa c.Vers.length cap] 212)):=(((((Below.refl _ w).alloc (K9 _) _).alloc X1 _).alloc AL1 _).alloc AL1 _).alloc AL1 _;have hsz:(((((w.alloc (.cells #[.string ⟨c.Key.toArray⟩,.slice oa c.Vers.length cap] 214)).alloc (.cells #[.int .i64 t] 3)).alloc (.cells #[.string {data:=#[]}] 9)).alloc (.cells #[.bool false] 4)).alloc (.cells #[.slice oa c.Vers.length cap] 212)).heap.size=w.heap.size+5:=by simp
  obtain⟨W0,hW0⟩:∃W0,((((w.alloc (.cells #[.string ⟨c.Key.toArray⟩,.slice oa c.Vers.length cap] 214)).alloc (.cells #[.int .i64 t] 3)).alloc (.cells #[.string {data:=#[]}] 9)).alloc (.cells #[.bool false] 4)).alloc (.cells #[.slice oa c.Vers.length cap] 212)=W0:=⟨_,rfl⟩;rw[hW0]at b3 b4 b5 bs hB0 hsz⊢;clear hW0;have hI0:CP7 W0.heap.size W0 oa c.Vers:=by
    rcases hI with h|⟨b,off,e,hb,hv⟩
    ·exact .inl h
    ·exact .inr ⟨b,off,e,by omega,hv.below hB0 hb⟩
  refine wpIn_rangeFunc_ownH hro h1 (gf:=322) (lb:=#[.pointer (some ⟨w.heap.size+1+1+1+1,0,none⟩)]) rfl h3f (enters_of func322 E3 rfl)
    (DU4 F (n-1) h3f hro qz7 (w.heap.size+1+1+1+1) W0.heap.size oa cap c.Vers hreach W0 qz7 (K9 _) bs.cell hI0) belowK_t (belowK_b (K9 _)) (Below.refl _ _) (fun _=>rfl)
    (fun pre W=>(((CP8 t pre∧Boxed W (w.heap.size+1) 3 (.int .i64 t))∧Boxed W (w.heap.size+1+1) 9 (.string {data:=#[]}))∧Boxed W (w.heap.size+1+1+1) 4 (.bool false))∧(Below w.heap.size w W∧Below W0.heap.size W0 W))
    (fun cd pre W=>(∃v,(((cd= .ret∧OneAt t pre v)∧Boxed W (w.heap.size+1+1) 9 (.string ⟨v.Val.toArray⟩))∧Boxed W (w.heap.size+1+1+1) 4 (.bool (!v.Gone))))∧Below w.heap.size w W)
    (OwnFrom.and (OwnFrom.and (OwnFrom.and (OwnFrom.and (ownFrom_pure _ _) (Own.from (boxed_own _ _ _) _)) (Own.from (boxed_own _ _ _) _)) (Own.from (boxed_own _ _ _) _)) (OwnFrom.and (ownFrom_below (K9 _) qz7) (ownFrom_below (K9 _) (K9 _))))
    (fun cd=>OwnFrom.and (fun s X Y row hs hg hr=>by
      obtain⟨v,⟨e1,e2⟩,e3⟩:=hs;exact⟨v,⟨e1,boxed_own _ _ (fun (_:Unit)=>Value.string ⟨v.Val.toArray⟩) () X Y row e2 hg (fun r e=>(hr r e).2)⟩,boxed_own _ _ (fun (_:Unit)=>Value.bool (!v.Gone)) () X Y row e3 hg (fun r e=>(hr r e).2)⟩) (ownFrom_below (K9 _) qz7))
    ⟨⟨⟨⟨fun _ h=>by simp at h,b3⟩,b4⟩,b5⟩,hB0,Below.refl _ _⟩
    (fun x a' W=>∃Bx,w.heap.size+1+1+1<Bx∧(W.cell? ⟨Bx,0,none⟩=some (.int .i64 x.2.Time)∧W.cell? ⟨Bx,1,none⟩=some (.string ⟨x.2.Val.toArray⟩)∧W.cell? ⟨Bx,2,none⟩=some (.bool x.2.Gone))∧a'={tmps:=#[.agg #[.string ⟨c.Key.toArray⟩,.slice oa c.Vers.length cap],.int .i64 t,.pointer (some ⟨w.heap.size,0,none⟩),.pointer (some ⟨w.heap.size+1,0,none⟩),.pointer (some ⟨w.heap.size+1+1,0,none⟩),.pointer (some ⟨w.heap.size+1+1+1,0,none⟩),undef,.pointer (some ⟨Bx,0,none⟩),.pointer (some ⟨w.heap.size,1,none⟩),.slice oa c.Vers.length cap,.func (.func 322) #[] #[.pointer (some ⟨w.heap.size+1+1+1+1,0,none⟩)],.int .i64 x.1,CX3 x.2,undef,undef,undef,undef,undef,undef,undef,undef,undef],defers:=[]})
    (fun x a' _ X Y row hs hg hr=>by
      obtain⟨Bx,e1,⟨e2,e3,e4⟩,e5⟩:=hs;exact⟨Bx,e1,⟨cell_kept e2 hg (fun r e=>(hr r e).2),cell_kept e3 hg (fun r e=>(hr r e).2),cell_kept e4 hg (fun r e=>(hr r e).2)⟩,e5⟩)
    ?assign ?body ?done ?stop
  case assign=>
    rintro l pre x W K ⟨⟨⟨⟨hp,bt⟩,bv⟩,bg⟩,hB1,hB2⟩ hK
    dsimp only[CX3];have hW0:=hB2.size
    gi_wp2
    refine hK _ _ ((KeepsOthers.alloc _ _).from _) ((Below.refl _ W).alloc qz7 _) ⟨⟨⟨⟨hp,bt.alloc _⟩,bv.alloc _⟩,bg.alloc _⟩,hB1.alloc hB1.size _,hB2.alloc hB2.size _⟩ ⟨W.heap.size,bg.lt,⟨?_,?_,?_⟩,rfl⟩
    ·unfold World.cell?;rw[World.alloc_heap_new];rfl
    ·unfold World.cell?;rw[World.alloc_heap_new];rfl
    ·unfold World.cell?;rw[World.alloc_heap_new];rfl
  case body=>
    rintro l pre x a' W hl ⟨r,hr⟩ ⟨⟨⟨⟨hp,bt⟩,bv⟩,bg⟩,hB1,hB2⟩ ⟨Bx,hBx,⟨c1,c2,c3⟩,rfl⟩ hlt
    have ct:=bt.cell;have cv:=bv.cell;have fv:=bv.frozen;have cg:=bg.cell;have fg:=bg.frozen;dsimp only[CX3]
    gi_wp2
    · have hxy:x.2.Time≤t:=by assumption
      have bv2:=(bv.set (.string ⟨x.2.Val.toArray⟩)).other (show w.heap.size+1+1≠w.heap.size+1+1+1 by omega) (.bool (!x.2.Gone));have bg2:=(bg.other (show w.heap.size+1+1+1≠w.heap.size+1+1 by omega) (.string ⟨x.2.Val.toArray⟩)).set (.bool (!x.2.Gone));have hB3:=(hB1.setCell (p:=⟨w.heap.size+1+1,0,none⟩) AL1 (.string ⟨x.2.Val.toArray⟩)).setCell (p:=⟨w.heap.size+1+1+1,0,none⟩) AL1 (.bool (!x.2.Gone));have hone:OneAt t (pre++[x]) x.2:=⟨pre,x.1,rfl,hp,hxy⟩
      gi_region
      all_goals gi_wp2
      all_goals exact⟨((KeepsOthers.setCell _ _ _).trans ((KeepsOthers.setCell _ _ _).trans (KeepsOthers.drew _))).from _,⟨x.2,⟨⟨rfl,hone⟩,bv2⟩,bg2⟩,hB3.drew⟩
    · rename_i hxy
      exact⟨KeepsFrom.refl _ _,Below.refl _ _,⟨⟨⟨DG4 hp hxy,bt⟩,bv⟩,bg⟩,hB1,hB2⟩
  case done=>
    rintro D zs W hD rfl ⟨⟨⟨⟨hp,bt⟩,bv⟩,bg⟩,hB1,hB2⟩ hK
    have cv:=bv.cell;have fv:=bv.frozen;have cg:=bg.cell;have fg:=bg.frozen
    gi_wp2
    have hK1:=(KeepsOthers.setCell W ⟨w.heap.size+1+1,0,none⟩ (.string {data:=#[]})).same D _ hK rfl;have hK':=(KeepsOthers.setCell _ ⟨w.heap.size+1+1+1,0,none⟩ (.bool false)).same D _ hK1 rfl;refine⟨by simp,.inl ⟨_,_,rfl,run_takeDeferred hK',?_⟩⟩;have bv2:=(bv.set (.string {data:=#[]})).other (show w.heap.size+1+1≠w.heap.size+1+1+1 by omega) (.bool false);have bg2:=(bg.other (show w.heap.size+1+1+1≠w.heap.size+1+1 by omega) (.string {data:=#[]})).set (.bool false);have hc4:=cell_kept bv2.cell (grownBy_putObj' _ D (.deferred none)) (fun r e=>by cases e;exact⟨_,hK',rfl⟩);have hc5:=cell_kept bg2.cell (grownBy_putObj' _ D (.deferred none)) (fun r e=>by cases e;exact⟨_,hK',rfl⟩);refine⟨.tuple #[.string {data:=#[]},.bool false],?_,by rw[val_none hp],((hB1.setCell (p:=⟨w.heap.size+1+1,0,none⟩) AL1 _).setCell (p:=⟨w.heap.size+1+1+1,0,none⟩) AL1 _).trans (belowK_b (w:=w) (K9 _) _ D _ _ qz7 hK' rfl rfl)⟩;simp[results,Tryz.f221,go_sem,hc4,hc5]
  case stop=>
    rintro D cd pre W hD ⟨k,hk,hpre⟩ ⟨⟨v,⟨⟨rfl,hone⟩,bv⟩,bg⟩,hB1⟩ hK
    gi_wp2
    refine⟨by simp,.inl ⟨_,_,rfl,run_takeDeferred hK,?_⟩⟩;have hc4:=cell_kept bv.cell (grownBy_putObj' _ D (.deferred none)) (fun r e=>by cases e;exact⟨_,hK,rfl⟩);have hc5:=cell_kept bg.cell (grownBy_putObj' _ D (.deferred none)) (fun r e=>by cases e;exact⟨_,hK,rfl⟩);obtain⟨pre0,i,he,hn0,hvt⟩:=hone;have hval:=val_some (x:=(i,v)) hk (he.symm.trans hpre) hn0 hvt;refine⟨.tuple #[.string ⟨v.Val.toArray⟩,.bool (!v.Gone)],?_,by rw[hval],hB1.trans (belowK_b (w:=w) (K9 _) W D _ _ qz7 hK rfl rfl)⟩;simp[results,Tryz.f221,go_sem,hc4,hc5]
open Go.AV in
open Go.AV in
theorem at_spec (c:B8) (t:Int) (hs:c.Vers.length≤4194304):D6 221 [AV.agg c.cs,AV.int t] (AV.tup [AV.str (AE3 c t).1,AV.bool (AE3 c t).2]):=fspec_mk fun R w vs hr hd=>by
  obtain⟨v0,v1,rfl⟩:∃a b,vs=[a,b]:=by
    match vs,hd.1 with
    |[a,b],_=>exact⟨a,b,rfl⟩
  obtain⟨us,rfl,hdc⟩:=hd.2 0 v0 _ rfl rfl;have d1:v1= .int .i64 t:=hd.2 1 v1 _ rfl rfl;subst d1;obtain⟨u0,u1,rfl⟩:∃a b,us=[a,b]:=by
    match us,hdc.1 with
    |[a,b],_=>exact⟨a,b,rfl⟩
  have e0 :u0= .string ⟨c.Key.toArray⟩:=(hdc.2 0 u0 _ rfl rfl).1;subst e0;obtain⟨oa,cap,e1,h1,h2,h3,h4⟩:=(hdc.2 1 u1 _ rfl rfl).1;subst e1;have hI:CP7 w.heap.size w oa c.Vers:=by
    by_cases hn:c.Vers=[]
    ·exact .inl hn
    · obtain⟨a,rfl,hca⟩:=h4 (by simpa using hn)
      have hget:∀(j:Nat) (v:U0) (i:Nat) (x:AV),c.Vers[j]? =some v→(U0.cs v)[i]? =some x→∃u,Ah8 R (a.add (j*3+i))=some u∧x.den R u∧u.oneCell'=true:=fun j v i x hj hx=>
        hca _ x (AH6 h3 (by rw[a8,hj];rfl) hx)
      obtain⟨b,off,sp⟩:=a;have hsp:sp=none:=by
        obtain⟨v,hv⟩:=B2 (show 0<c.Vers.length from List.length_pos_iff.2 hn);obtain⟨u,hu,_⟩:=hget 0 v 0 _ hv rfl;unfold Ah8 at hu
        cases sp with
        |none=>rfl
        |some s=>simp[Addr.add]at hu;split at hu<;>cases hu
      subst hsp;refine .inr ⟨b,off,rfl,?_,fun j v hj=> ?_⟩
      · obtain⟨v,hv⟩:=B2 (show 0<c.Vers.length from List.length_pos_iff.2 hn)
        obtain⟨u,hu,_⟩:=hget 0 v 0 _ hv rfl;unfold Ah8 at hu;split at hu
        · rename_i hb
          exact(AX6.1 (hr _ _ hb)).1
        ·cases hu
      · obtain⟨x0,k0,k0',_⟩:=hget j v 0 _ hj rfl
        obtain⟨x1,k1,k1',_⟩:=hget j v 1 _ hj rfl;obtain⟨x2,k2,k2',_⟩:=hget j v 2 _ hj rfl;have k0'':x0= .int .i64 v.Time:=k0';have k1'':x1= .string ⟨v.Val.toArray⟩:=k1';have k2'':x2= .bool v.Gone:=k2';subst k0'';subst k1'';subst k2'';rw[show ((⟨b,off,none⟩:Addr).add (j*3+0))=⟨b,off+j*3,none⟩ by simp[Addr.add]]at k0;rw[show ((⟨b,off,none⟩:Addr).add (j*3+1))=⟨b,off+j*3+1,none⟩ by simp[Addr.add,Nat.add_assoc]]at k1;rw[show ((⟨b,off,none⟩:Addr).add (j*3+2))=⟨b,off+j*3+2,none⟩ by simp[Addr.add,Nat.add_assoc]]at k2;exact⟨AY9 hr k0,AY9 hr k1,AY9 hr k2⟩
  refine(callsIn_wide (n:=8)).1 ?_;have hl:(c.Vers.map U0.cs).length=c.Vers.length:=A8 _;rw[show ([Value.agg [.string ⟨c.Key.toArray⟩,.slice oa (c.Vers.map U0.cs).length cap].toArray,.int .i64 t]:List Value).toArray=#[.agg #[.string ⟨c.Key.toArray⟩,.slice oa c.Vers.length cap],.int .i64 t]from by rw[hl]];refine(at_in Fence.wide 8 trivial trivial trivial rfl qz7 c t oa cap qz7 w hI).mono ?_
  rintro e W' ⟨rfl,hB⟩
  refine⟨_,R,rfl,⟨[.string ⟨(AE3 c t).1.toArray⟩,.bool (AE3 c t).2],rfl,m3.cons rfl (m3.cons rfl (m3.nil R))⟩,fun b o hb=> ?_,fun _ _=>rfl,hB⟩;have:=hr b o hb;rw[hB.block b (AX6.1 this).1];exact this
end Go.PQ
namespace Go.PQ
open Go.Proofs Go.Proofs.Tryz
open Go Go.AV Go.M
attribute [local irreducible] OpW OpA OpS AWP J6 L6 K4 L0 Le Ev G4
theorem DU5 (c:B8)(t:Int)(hl:c.Vers.length≤4194304):D6 165 [AV.agg c.cs,AV.int t] (AV.tup [AV.agg ((Ak8 c.Vers t).getD zV).cs,AV.bool (Ak8 c.Vers t).isSome]):=by
 refine B0 func165 rfl ntmps165 rfl ?_;refine R3 ?_;intro b2;refine R1 ?_;intro b4;refine R5 ?_;intro b6;refine R14 ?_;refine E8 [(1,_),(4,_),(5,_),(6,_),(11,_),(12,_)] _ (fun (i:Nat)=>i≤c.Vers.length) (fun i=>[.box b6 209 ((Ak8 (c.Vers.take i) t).getD zV).cs]) (fun i=>[(7,AV.bool (Ak8 (c.Vers.take i) t).isSome),(13,AV.int i)]) (fun i=>c.Vers.length-i) (0) ?_ (I1 B7 A6) ?_
 ·exact E4 _
 intro i hinv;refine zK ?_ ?_
 ·intro h14 k14;have hlt:i<c.Vers.length:=by omega
  obtain⟨x,hx⟩:=B2 hlt;have hvs:=DP0 (t:=t) hx;refine R5 ?_;refine A1 rfl (C2 rfl X7 z5 zA zA hx qz1) ?_;refine R2 ?_;intro b9;refine zK ?_ ?_
  ·intro h20 k20;have hve:Ak8 (c.Vers.take (i+1)) t=some x:=by rw[hvs,D9 k20]
   refine R12 ?_;refine F1 i (i+1) ?_ ?_ (D5 1 (by first|(rw[hve];rfl)|(rw[hve])) ⟨F2 (fun z:Bool=>some (AV.bool z)) (by rw[hve];try rfl),rfl,rfl,rfl,rfl,rfl,rfl,rfl,trivial⟩)
   ·omega
   omega
  intro h20 k20;have hve:Ak8 (c.Vers.take (i+1)) t=Ak8 (c.Vers.take i) t:=by rw[hvs,D0 k20]
  refine R5 ?_;refine F1 i (i+1) ?_ ?_ (D5 1 (by first|(rw[hve];rfl)|(rw[hve])) ⟨F2 (fun z:Bool=>some (AV.bool z)) (by rw[hve];try rfl),rfl,rfl,rfl,rfl,rfl,rfl,rfl,trivial⟩)
  ·omega
  omega
 intro h14 k14;have hge:c.Vers.length≤i:=by omega
 rw[S7 hge];refine R9 ?_;exact Y1 rfl E5 (G0 (F5 (ys:=_) 1 rfl rfl isAgg209 z5 rfl) (G0 (A5 rfl (by first|rfl|exact F2 AV.bool (by rw[S7 hge]))) u9))
theorem BZ7 (l:List B8)(k:Str)(t:Int)(hs:D2 B8.size l≤4194304):D6 95 [AV.list 2 (l.map B8.cs),AV.str k,AV.int t] (AV.tup [AV.str (cellAt l k t).1,AV.bool (cellAt l k t).2]):=by
 refine B0 func95 rfl ntmps95 rfl ?_;refine zq185 ?_;refine R6 ?_;refine zF rfl call164 (Bq3 _ _) F3 ?_;refine zK ?_ ?_
 ·intro h15 k15;have he:cellAt l k t=([],false):=By3 (CS4 k15);rw[he];refine zq185 ?_;refine R3 ?_;exact zq111
 intro h15 k15;obtain⟨p,c,hp,hc,hf⟩:=CS5 k15;rw[hp];have hcl:=(AW0 (L7 (W4 hc) hs)).2.1;have he:=(By4 (t:=t) hf).trans (Cf5 c t);rw[he];refine R5 ?_;refine A1 rfl (C2 rfl E7 K0 zA zA hc qz1) ?_;refine R2 ?_;refine zF rfl call165 (DU5 _ _ X9) (A2 (A0 rfl) (A2 (A0 rfl) A9)) ?_;refine R4 ?_;intro b9;refine R17 ?_;exact zq111
theorem DG5 (l:List B8)(k:Str)(t:Int)(ha:adj u7 l=true)(hs:D2 B8.size l≤4194304):D6 154 [AV.list 2 (l.map B8.cs),AV.str k,AV.int t] (AV.tup [AV.str (cellAt l k t).1,AV.bool (cellAt l k t).2]):=by
 have hl:l.length≤4194304:=L7 M7 hs;refine B0 func154 rfl ntmps154 rfl ?_;refine zq185 ?_;refine R6 ?_;refine zF rfl call220 (At6 _ _ X9) (A2 (A0 rfl) (A2 (A0 rfl) A9)) ?_;refine zC ?_ ?_
 ·intro h17;have hn:Ar1 l k=false:=by simpa using h17
  have he:cellAt l k t=([],false):=By3 (by rw[BR7 ha,hn];rfl);rw[he];refine zq185 ?_;refine R3 ?_;exact zq111
 intro h17;have hn:Ar1 l k=true:=by simpa using h17
 obtain⟨c,hc,hck⟩:=Av2.1 hn;have hcl:=(AW0 (L7 (W4 hc) hs)).2.1;have he:cellAt l k t=AE3 c t:=By4 (by rw[BR7 ha,hn,D9 rfl,hc]);rw[he];refine R5 ?_;refine A1 rfl (C2 rfl E7 K0 zA zA hc qz1) ?_;refine R2 ?_;refine zF rfl call221 (at_spec _ _ qz7) (A2 (A0 rfl) (A2 (A0 rfl) A9)) ?_;refine R6 ?_;exact zq111
attribute [local irreducible] K3 OpE I5 L9 Y8 Int.tmod Int.tdiv IntKind.wrap T3
theorem Bl7 (a b:List Int):D6 53 [ints a,ints b] (AV.bool (decide (a=b))):=by
 refine B0 Tryz.func53 rfl Tryz.ntmps53 rfl ?_;refine Y0 (t:=0) rfl fun hl=> ?_;try simp only[A8]at hl
 refine zC ?_ ?_
 ·intro h10;have k10:=Af4 h10;(try simp only[A8]at k10);have hab:a≠b:=by intro hc;subst hc;exact k10 rfl
  exact zq93
 intro h10;have k10:=AI9 h10;(try simp only[A8]at k10);have heq:a.length=b.length:=by omega
 refine R9 ?_;refine E8 [(0,_),(1,_),(12,_)] _ (fun (i:Nat)=>i≤a.length∧a.take i=b.take i) (fun i=>[]) (fun i=>[(13,AV.int i)]) (fun i=>a.length-i) (0) ?_ (G2 A6) ?_
 ·exact zq4
 intro i hinv;refine zK ?_ ?_
 ·intro h14 k14;have hlt:i<a.length:=by omega
  obtain⟨x,hx⟩:=B2 hlt;obtain⟨y,hy⟩:=B2 (show i<b.length by omega);refine R12 ?_;refine B3 rfl rfl (C2 rfl D3 E9 zA zA hx qz1) ?_;refine R3 ?_;refine B3 rfl rfl (C2 rfl D3 E9 zA zA hy qz1) ?_;refine zC ?_ ?_
  ·intro h24;have k24:=Af4 h24;(try simp only[A8]at k24);have hab:a≠b:=by intro hc;subst hc;rw[hx]at hy;injection hy with hy;subst hy;simp at h24
   exact zq93
  intro h24;have k24:=AI9 h24;(try simp only[A8]at k24);refine R5 ?_;refine F1 i (i+1) ?_ ?_ (G2 A6)
  ·exact⟨by omega,Ay3 hinv.2 hx (by rw[hy];congr 1;simp_all)⟩
  omega
 intro h14 k14;have hge:a.length≤i:=by omega
 have hab:a=b:=BN4 heq hinv.2 hge;refine R6 ?_;exact D1 rfl (A5 rfl BK5)
theorem DG6 (t:Int):D6 183 [AV.int t] (AV.tup [AV.int (if t≤100000 then t else 0),AV.bool (decide (t≤100000))]):=by
 refine B0 func183 rfl ntmps183 rfl ?_;refine zK ?_ ?_
 ·intro h5 k5;rw[D0 qz7,AC1 qz7];refine R6 ?_;exact zq111
 intro h5 k5;rw[D9 qz7,W6 qz7];refine R8 ?_;exact zq111
theorem Bx6 (s:E1)(n:Int)(hs:s.size≤400000):D6 421 [AV.agg s.cs,AV.int n] (AV.tup [AV.int (Bk6 s n).1,AV.bool (Bk6 s n).2]):=by
 refine B0 func421 rfl ntmps421 rfl ?_;refine R3 ?_;intro b2;refine R7 ?_;refine zF rfl call425 (CK3 s qz7) G6 ?_;refine R3 ?_;refine S0 rfl (fun hc=>zG rfl call86 (Ar7 _) zS) ?_;refine R6 ?_;refine S0 rfl (fun hc=>zG rfl call193 (AH8 _ _) zS) ?_;refine zC ?_ ?_
 ·intro h20;have he:Bk6 s n=(0,false):=by (unfold Bk6 m5;cases h1:V1 s<;>cases h2:M.o0 n<;>simp_all)
  rw[he];refine R6 ?_;exact zq111
 intro h20;have hg:V1 s=true∧M.o0 n=true:=by (cases h1:V1 s<;>cases h2:M.o0 n<;>simp_all)
 have hn:=Bi6.1 hg.2;have hfl:=(AH7.1 hg.1).floor;have hml:0≤m5 s.Floor n∧m5 s.Floor n≤100000:=by (unfold m5;split<;>omega)
 have hne:m5 s.Floor n≠100000:=fun hc9=>by (rw[hg.1,hg.2,show (if n<s.Floor then s.Floor else n)=(100000:Int)from hc9]at h20;simp at h20)
 have he:Bk6 s n=(m5 s.Floor n+1,true):=by (unfold Bk6;rw[D9 (by rw[hg.1,hg.2];rfl),D9 qz7])
 rw[he];refine R6 ?_;refine zF rfl call193 (AH8 _ _) F3 ?_;refine A1 rfl (Ba2 rfl zA L1 (by show _≤m5 s.Floor n+1∧m5 s.Floor n+1≤_;omega)) ?_;refine R4 ?_;exact zq111
end Go.PQ
namespace Go.AV
theorem w_max3 {P:Program}{G:Nat→Prop}{n:Nat}{own:List Own}{o:Oper}{E:P3}{p q r:Operand}{tys:Array TypeId}{x y z:Int}{k:IntKind}(ho:o.op= .call {callee:= .builtin .max,args:=#[p,q,r],argTypes:=tys})(hp:Ev E p (AV.ik k x))(hq:Ev E q (AV.ik k y))(hr:Ev E r (AV.ik k z)):OpW P G n own o E (AV.ik k (if z>(if y>x then y else x)then z else (if y>x then y else x))):=P7 fun R a w _ he=>by
  have h1:a.eval p= .int k x:=H4 hp AV5 he;have h2:a.eval q= .int k y:=H4 hq AV5 he;have h3:a.eval r= .int k z:=H4 hr AV5 he;refine⟨.int k (if z>(if y>x then y else x)then z else (if y>x then y else x)),?_,rfl⟩;simp only[execOp,ho,resolve,invoke,builtin,AM8,m4,List.map_nil,h1,h2,h3,Sem.run_bind,Sem.run_pure,Result.andThen_ok];rfl
end Go.AV
namespace Go.PQ
open Go.Proofs Go.Proofs.Tryz
open Go Go.AV Go.M
attribute [local irreducible] OpW OpA OpS AWP J6 L6 K3 OpE K4 I5 L0 Le Ev G4 L9 Y8 Int.tmod Int.tdiv IntKind.wrap T3
theorem Ch9 (s:Ac5):D6 182 [AV.agg s.cs] (AV.bool (BF2 s)):=by
  refine B0 func182 rfl ntmps182 rfl ?_;refine R3 ?_;intro b1;refine R22 ?_;exact zq3
theorem CU6 (s:S6):D6 63 [AV.agg s.cs] (AV.bool (AA2 s)):=by
  refine B0 func63 rfl ntmps63 rfl ?_;refine R3 ?_;intro b1;refine R6 ?_;refine zq202 ?_;exact zq218
theorem Cw9 (s:S6):D6 83 [AV.agg s.cs] (AV.bool (AA2 s)):=by
  refine B0 func83 rfl ntmps83 rfl ?_;refine R3 ?_;intro b1;refine R6 ?_;refine zq155 ?_;exact zq218
theorem De5 (c:S6)(now:Int)(hc:AA2 c=true)(hn:o0 now=true):D6 184 [AV.agg c.cs,AV.int now] (AV.agg (AB3 c now).cs):=by
  have h1:=Bl4.1 hc;have h2:=Bi6.1 hn;refine B0 func184 rfl ntmps184 rfl ?_;refine R3 ?_;intro b2;refine R1 ?_;intro b4;refine R17 ?_;exact D1 rfl (F5 (ys:=_) 0 rfl rfl Ae2 AY5 rfl)
theorem De6 (c:S6)(now:Int)(hc:AA2 c=true)(hn:o0 now=true):D6 194 [AV.agg c.cs,AV.int now] (AV.agg (AB3 c now).cs):=by
  have h1:=Bl4.1 hc;have h2:=Bi6.1 hn;refine B0 func194 rfl ntmps194 rfl ?_;refine R3 ?_;intro b2;refine R1 ?_;intro b4;refine R17 ?_;exact D1 rfl (F5 (ys:=_) 0 rfl rfl Ae2 AY5 rfl)
theorem ifT_spec (t:Int):D6 183 [AV.int t] (AV.tup [AV.int (ifT t).1,AV.bool (ifT t).2]):=DG6 t
theorem CU7 (l:List Int)(s:Ac5)(hs:s.High≤1000000∧ -1000000≤s.High):D6 415 [ints l,AV.agg s.cs] (AV.int (Ao7 (s.High+1) l)):=by
 refine B0 func415 rfl ntmps415 rfl ?_;refine Y0 (t:=0) rfl fun hl=> ?_;try simp only[A8]at hl
 refine R3 ?_;intro b3;refine R17 ?_;refine K5 [(4,_),(11,_),(12,_)] _ (fun (i:Nat) (m:Int)=>i≤l.length∧m=Ao7 (s.High+1) (l.take i)) (fun i m=>[]) (fun i m=>[(5,AV.int m),(13,AV.int i)]) (fun i m=>l.length-i) (0) (s.High+1) ?_ (G2 A6) ?_
 ·exact zq4
 intro i m hinv;refine zK ?_ ?_
 ·intro h14 k14;have hlt:i<l.length:=by omega
  obtain⟨x,hx⟩:=B2 hlt;refine zq205 ?_;refine R6 ?_;refine zF rfl call193 (AH8 _ _) F3 ?_;refine R6 ?_;refine H5 i m (i+1) (m5 m x) ?_ ?_ (G2 A6)
  ·exact⟨by omega,by rw[Bz8 hx,hinv.2]⟩
  omega
 intro h14 k14;have hge:l.length≤i:=by omega
 rw[show m=Ao7 (s.High+1) l from by rw[hinv.2,S7 hge]];exact zq216
theorem CU8 (s:E1)(x:Ac5)(hs:s.size≤1048576):D6 113 [AV.agg s.cs,AV.agg x.cs] (AV.tup [AV.int (BX5 s x).1,AV.bool (BX5 s x).2]):=by
 refine B0 func113 rfl ntmps113 rfl ?_;refine R3 ?_;intro b2;refine R1 ?_;intro b3;refine R7 ?_;refine zF rfl call181 (CT9 s hs) G6 ?_;refine R3 ?_;refine S0 rfl (fun hc=>zG rfl call182 (Ch9 _) zS) ?_;refine zC ?_ ?_
 ·intro h13;have he:BX5 s x=(0,false):=by (unfold BX5;rw[D0 (by cases h1:V1 s<;>simp_all)])
  rw[he];refine R6 ?_;exact Y1 rfl E5 (G0 (A5 rfl (by first|rfl|rw[←hm])) (G0 (A5 rfl (by first|rfl|rw[←hm])) u9))
 intro h13;have hg:V1 s=true∧BF2 x=true:=by (cases h1:V1 s<;>cases h2:BF2 x<;>simp_all)
 have hfl:=(AH7.1 hg.1).floor;have hsp:=Cw2.1 hg.2;have he:BX5 s x=ifT (m5 1 (m5 (s.Floor+1) (x.High+10))):=by (unfold BX5;rw[D9 (by rw[hg.1,hg.2];rfl)])
 have hm:(if 1>(if x.High+10>s.Floor+1 then x.High+10 else s.Floor+1)then 1 else (if x.High+10>s.Floor+1 then x.High+10 else s.Floor+1))=m5 1 (m5 (s.Floor+1) (x.High+10)):=by (unfold m5;repeat (first|omega|split))
 rw[he];refine R9 ?_;refine A1 rfl (w_max3 rfl zA zA L1) ?_;refine zF rfl call183 (ifT_spec _) G6 ?_;refine R6 ?_;exact Y1 rfl E5 (G0 (A5 rfl (by first|rfl|rw[←hm])) (G0 (A5 rfl (by first|rfl|rw[←hm])) u9))
theorem Ci0 (s:E1)(x:Ac5)(hs:s.Floor≤1000000∧ -1000000≤s.Floor)(hx:x.High≤1000000∧ -1000000≤x.High):D6 121 [AV.agg s.cs,AV.agg x.cs] (AV.int (m5 1 (m5 (s.Floor+1) (x.High+10)))):=by
  refine B0 func121 rfl ntmps121 rfl ?_;refine R3 ?_;intro b2;refine R1 ?_;intro b3;refine R10 ?_;refine zF rfl call193 (AH8 _ _) F3 ?_;refine zq197 ?_;exact zq218
end Go.PQ