/- Texts of the claim, part 2. -/
import Derived.Laws.BytesArg
import Derived.Laws.IdiomStrings
import Derived.Lib.AppendZerosOnto
import Derived.Lib.Overlaps
import Derived.Sort.Grow
import Derived.Lib.LaidTab
import Derived.Lib.ItoaNum
import Derived.Lib.Split
import Derived.Lib.SplitLaws
import Derived.Lib.ConvBytes
import Derived.WideLaws
import Derived.SizedLaws
import Derived.Test.YthpipeokipgafaaGreatDoorProg
import Derived.Sort.Walk0
import Derived.Test.YthpipeokipgafaaGreatDoorZChanges1
set_option linter.unusedVariables false
set_option linter.unusedSimpArgs false
set_option maxRecDepth 100000
set_option maxHeartbeats 4000000
set_option linter.defProp false
def AV1 := @Go.Proofs.Tryz.isAgg175
def d8 := @Go.Proofs.Tryz.underlying58
def O5 := @Go.Proofs.Tryz.underlying9
def O9 := @Go.Proofs.Tryz.underlying129
def V4 := @Go.Proofs.Tryz.underlying61
def y9 := @Go.Proofs.Tryz.sizeOf78
def AF9 := @Go.Proofs.Tryz.sizeOf55
def n7 := @Go.Proofs.Tryz.sizeOf59
def z6 := @Go.Proofs.Tryz.isAgg183
def D2 := @Go.Proofs.Tryz.underlying54
def T0 := @Go.Proofs.Tryz.underlying97
def F5 := @Go.Proofs.Tryz.underlying55
def M9 := @Go.Proofs.Tryz.underlying29
def O1 := @Go.Proofs.Tryz.underlying105
def AV2 := @Go.Proofs.Tryz.sizeOf99
def Y1 := @Go.Proofs.Tryz.sizeOf244
def W5 := @Go.Proofs.Tryz.underlying81
def E3 := @Go.Proofs.Tryz.underlying25
def i8 := @Go.Proofs.Tryz.sizeOf139
def G5 := @Go.Proofs.Tryz.underlying28
def AG6 := @Go.Proofs.Tryz.underlying164
def z7 := @Go.Proofs.Tryz.sizeOf25
def AH6 := @Go.Proofs.Tryz.underlying52
def AD7 := @Go.Proofs.Tryz.sizeOf175
def n5 := @Go.Proofs.Tryz.sizeOf170
def P2 := @Go.Proofs.Tryz.isAgg58
def S6 := @Go.Proofs.Tryz.sizeOf102
def J2 := @Go.Proofs.Tryz.sizeOf131
def P7 := @Go.Proofs.Tryz.underlying56
def q6 := @Go.Proofs.Tryz.underlying22
def E0 := @Go.Proofs.Tryz.sizeOf81
def V2 := @Go.Proofs.Tryz.sizeOf177
def AV3 := @Go.Proofs.Tryz.sizeOf79
def AV4 := @Go.Proofs.Tryz.sizeOf28
def S0 := @Go.Proofs.Tryz.underlying24
def AV5 := @Go.Proofs.Tryz.isAgg239
def U9 := @Go.Proofs.Tryz.isAgg32
def E7 := @Go.Proofs.Tryz.sizeOf3
def T9 := @Go.Proofs.Tryz.sizeOf100
def d9 := @Go.Proofs.Tryz.sizeOf145
def V0 := @Go.Proofs.Tryz.sizeOf4
def V5 := @Go.Proofs.Tryz.underlying59
def H0 := @Go.Proofs.Tryz.sizeOf67
def D7 := @Go.Proofs.Tryz.underlying35
def P0 := @Go.Proofs.Tryz.underlying100
def I2 := @Go.Proofs.Tryz.sizeOf9
def z8 := @Go.Proofs.Tryz.isAgg170
def G6 := @Go.Proofs.Tryz.underlying79
def AG0 := @Go.Proofs.Tryz.isAgg4
def L0 := @Go.Proofs.Tryz.sizeOf58
def I1 := @Go.Proofs.Tryz.sizeOf61
def AV6 := @Go.Proofs.Tryz.sizeOf29
def AA0 := @Go.Proofs.Tryz.underlying30
def V6 := @Go.Proofs.Tryz.underlying32
def m2 := @Go.Proofs.Tryz.sizeOf97
def O4 := @Go.Proofs.Tryz.isAgg81
def AG7 := @Go.Proofs.Tryz.underlying173
def J4 := @Go.Proofs.Tryz.underlying102
def M2 := @Go.Proofs.Tryz.sizeOf239
def r9 := @Go.Proofs.Tryz.underlying131
def T1 := @Go.Proofs.Tryz.underlying27
def G7 := @Go.Proofs.Tryz.underlying26
def Y2 := @Go.Proofs.Tryz.sizeOf183
def V7 := @Go.Proofs.Tryz.underlying99
def n8 := @Go.Proofs.Tryz.sizeOf64
def j4 := @Go.Proofs.Tryz.isAgg9
def s0 := @Go.Proofs.Tryz.underlying122
def AC8 := @Go.Proofs.Tryz.isAgg100
def O2 := @Go.Proofs.Tryz.sizeOf32
def Q8 := @Go.Proofs.Tryz.isAgg3
def o6 := @Go.Proofs.Tryz.underlying3
def AH7 := @Go.Proofs.Tryz.underlying46
def m3 := @Go.Proofs.Tryz.underlying4
def AC2 := @Go.Proofs.Tryz.underlying5
namespace Go.AV
open Go.RowKit (Below)
section
variable {P : Program} {G : Nat → Prop} {n : Nat}
def OpE (P : Program) (G : Nat → Prop) (n : Nat) (W : List Own) (ops : Array Oper) (o : Oper) (E : N7) {α : Type} (ok : α → Prop) (W' : α → List Own) (V : α → AV) : Prop :=
  ∀ w0 R0 R a w, T6 G w0 R0 W R w → a.tmps.size = n → (∀ t ∈ o.looksAt ops, ∀ y, E t = some y → y.den R (a.tmps.getD t undef)) →
    o.wp P a w (fun a' w' => ∃ x v R', ok x ∧ a' = a.put o.dst v ∧ T6 G w0 R0 (W' x) R' w' ∧ J8 R R' ∧ (V x).den R' v) (fun _ _ _ => False)
theorem OpE.congr {W : List Own} {ops : Array Oper} {o : Oper} {E E' : N7} {α : Type} {ok : α → Prop} {W' : α → List Own} {V : α → AV} (h : OpE P G n W ops o E ok W' V) (he : ∀ t ∈ o.looksAt ops, E' t = E t) : OpE P G n W ops o E' ok W' V :=
  fun w0 R0 R a w h1 h2 h3 => h w0 R0 R a w h1 h2 fun t ht y hy => h3 t ht y (by rw [he t ht]; exact hy)
def AV7 (base W : List Own) : Prop := ∃ ext, W = base ++ ext
theorem AW7 {own : List Own} : AV7 own own := ⟨[], (Q6 _).symm⟩
theorem CV8 {own : List Own} : AV7 [] own := ⟨own, rfl⟩
theorem S3 {own : List Own} (k : Nat) : AV7 (own.take k) own := ⟨own.drop k, (Ab0 k own).symm⟩
theorem Cn8 {base W ext : List Own} (h : W = base ++ ext) : AV7 base W := ⟨ext, h⟩
theorem Cn9 {R : G9} {w : World} {v : Value} {e : TypeId} {sz : Nat} {es : List (List AV)} (h : Own.ok R w (.arr v e sz es)) : v.oneCell' = true := by
  obtain ⟨_, _, xs, hown, _⟩ := h;obtain ⟨oa, c, rfl, _⟩ := BC9 hown;rfl
theorem O7 {own : List Own} {ops : Array Oper} {o : Oper} {rs : List Oper} {K : H2 → Prop} {env : List (Nat × AV)} {v : Value} {e : TypeId} {sz : Nat} {es : List (List AV)} (i : Nat) (hi : own[i]? = some (.arr v e sz es)) (k : v.oneCell' = true → Q5 P G n ops (o :: rs) ⟨own, env⟩ K) : Q5 P G n ops (o :: rs) ⟨own, env⟩ K := fun w0 R0 R a w hs =>
  k (Cn9 (hs.1.owned _ (C2 hi))) w0 R0 R a w hs
theorem G0 {own own' : List Own} {c : Code} {Q : Exit → H2 → Prop} {env : List (Nat × AV)} (h : own = own') (k : AWP P G n c Q ⟨own', env⟩) : AWP P G n c Q ⟨own, env⟩ := by subst h; exact k
theorem BM0 {own : List Own} {o : Oper} {E : N7} {t : TypeId} {p : Operand} {b off : Nat} {fs : Array Field} {fd : Field} {k j : Nat} (m : Nat) (ho : o.op = .fieldAddr t p k) (ht : P.underlying t = some (.struct fs)) (hk : fs[k]? = some fd) (hs : ∀ w, (sizeOf fd.type).run P w = .ok (j + 1) w)
    (hp : Ev E p (AV.ptr b off)) (hm : off + fd.offset = m) : OpW P G n own o E (AV.ptr b m) := by subst hm; exact w_fldB ho ht hk hs hp
def qB (P : Program) (G : Nat → Prop) (n : Nat) (Inv : List Own → Prop) (ops : Array Oper) (i : Nat) (K : N7 → List Own → Prop) (E : N7) (W : List Own) : Prop :=
  match ops[i]? with
  | none => K E W
  | some o => (∃ x, OpA P G n W ops o E x ∧ K (y8 o.dst x E) W) ∨
      (o.guard = none ∧ ∃ (α : Type) (ok : α → Prop) (W' : α → List Own) (V : α → AV), OpE P G n W ops o E ok W' V ∧ (∀ a, ok a → Inv (W' a)) ∧ ∀ a, ok a → K (y8 o.dst (V a) E) (W' a))
theorem Co0 {Inv : List Own → Prop} {ops : Array Oper} {i : Nat} {E : N7} {W : List Own} {K K' : N7 → List Own → Prop} (hW : Inv W) (h : ∀ E W, Inv W → K E W → K' E W) (hh : qB P G n Inv ops i K E W) : qB P G n Inv ops i K' E W := by
  unfold qB at *;split
  · exact h _ _ hW (by simpa [*] using hh)
  · rename_i o ho
    simp only [ho] at hh;rcases hh with ⟨x, h1, h2⟩ | ⟨hg, α, ok, W', V, h1, h2, h3⟩
    · exact .inl ⟨x, h1, h _ _ hW h2⟩
    · exact .inr ⟨hg, α, ok, W', V, h1, h2, fun a ha => h _ _ (h2 a ha) (h3 a ha)⟩
def Ai7 (P : Program) (G : Nat → Prop) (n : Nat) (Inv : List Own → Prop) (md : Region.Mode) (ops : Array Oper) (m : Nat) (L : Array Bool → N7 → List Own → Prop) : Nat → Array Bool → N7 → List Own → Prop
  | 0, listed, E, W => L listed E W
  | f + 1, listed, E, W => Region.ready md ops listed ≠ [] ∧ ∀ i ∈ Region.ready md ops listed, i < m ∧ qB P G n Inv ops i (Ai7 P G n Inv md ops m L f (listed.setIfInBounds i true)) E W
theorem AQ5 {Inv : List Own → Prop} {md : Region.Mode} {ops : Array Oper} {m g : Nat} {L : Array Bool → N7 → List Own → Prop} (hdst : ∀ (i : Nat) (o : Oper), ops[i]? = some o → ∀ d, o.dst = some d → d < n) {w0 : World} {R0 R00 : G9} {Q' : Exit → Act → World → Prop}
    (hL : ∀ listed E W R a w, J8 R00 R → T6 G w0 R0 W R w → AR7 E R a → a.tmps.size = n → a.defers = [] → L listed E W → wpAny P md ops Q' g listed a w) : ∀ (f : Nat) (listed : Array Bool) (E : N7) (W : List Own) (R : G9) (a : Act) (w : World),
    J8 R00 R → T6 G w0 R0 W R w → AR7 E R a → a.tmps.size = n → a.defers = [] → Ai7 P G n Inv md ops m L f listed E W → wpAny P md ops Q' (f + g) listed a w
  | 0, listed, E, W, R, a, w, h1, h2, h3, h4, h5, h => by rw [Nat.zero_add]; exact hL _ _ _ R a w h1 h2 h3 h4 h5 h
  | f + 1, listed, E, W, R, a, w, h1, h2, h3, h4, h5, h => by
    rw [show f + 1 + g = (f + g) + 1 by omega];refine ⟨fun h0 => absurd h0 h.1, fun i hi => ?_⟩;have hq := (h.2 i hi).2;unfold qB at hq;unfold wpOp
    cases ho : ops[i]? with
    | none =>
      simp only [ho] at hq;exact AQ5 hdst hL f _ E W R a w h1 h2 h3 h4 h5 hq
    | some o =>
      simp only [ho] at hq;have hdo : ∀ k, o.dst = some k → k < a.tmps.size := fun k e => by rw [h4]; exact hdst i o ho k e
      rcases hq with ⟨x, hx, hk⟩ | ⟨hg, α, ok, W', V, hx, _, hk⟩
      · obtain ⟨k1, k2⟩ := hx w0 R0 R a w h2 h4 fun t _ y hy => h3 t y hy
        by_cases hw : Region.wanted o (yielded ops a.tmps) = true
        · simp only [hw, if_true]
          refine .inl (Oper.wp_mono2 (fun a' w' ⟨v, R', e1, e2, e3, e4⟩ => ?_) (fun _ _ _ h => h.elim) (k1 hw));subst e1;exact AQ5 hdst hL f _ (y8 o.dst x E) W R' _ w' (h1.trans e3) e2 (AI4 h3 e3 hdo e4) BP1 BP2 hk
        · have hwf : Region.wanted o (yielded ops a.tmps) = false := by simpa using hw
          simp only [hwf, Bool.false_eq_true, if_false];exact AQ5 hdst hL f _ (y8 o.dst x E) W R _ w h1 h2 (AI4 h3 (J8.refl _) hdo (k2 hwf)) BP1 BP2 hk
      · have hw : Region.wanted o (yielded ops a.tmps) = true := Bi5 hg
        simp only [hw, if_true];refine .inl (Oper.wp_mono2 (fun a' w' ⟨x, v, R', e0, e1, e2, e3, e4⟩ => ?_) (fun _ _ _ h => h.elim) (hx w0 R0 R a w h2 h4 fun t _ y hy => h3 t y hy));subst e1;exact AQ5 hdst hL f _ (y8 o.dst (V x) E) (W' x) R' _ w' (h1.trans e3) e2 (AI4 h3 e3 hdo e4) BP1 BP2 (hk x e0)
theorem qB_put {Inv : List Own → Prop} {ops : Array Oper} {j : Nat} {oi oj : Oper} {x : AV} {W : List Own} (hj : ops[j]? = some oj) (hap : oi.apart ops oj = true) {K : N7 → List Own → Prop} {E : N7} (hW : Inv W)
    (hy : ∀ W, Inv W → OpA P G n W ops oi E x) (h : qB P G n Inv ops j K (y8 oi.dst x E) W) :
    qB P G n Inv ops j (fun E' W' => (∀ W, Inv W → OpA P G n W ops oi E' x) ∧ K (y8 oi.dst x E') W') E W := by
  obtain ⟨h1, h2, h3⟩ := Oper.apart_spec hap;unfold qB at *;simp only [hj] at *;rcases h with ⟨y, hu, hn⟩ | ⟨hg, α, ok, W', V, hu, hi, hn⟩
  · exact .inl ⟨y, hu.unupd h1, fun W hW => (hy W hW).upd h3, by rw [BX0 h2]; exact hn⟩
  · exact .inr ⟨hg, α, ok, W', V, hu.congr fun t ht => (AL6 fun e => h1 t e ht).symm, hi, fun a ha => ⟨fun W hW => (hy W hW).upd h3, by rw [BX0 h2]; exact hn a ha⟩⟩
theorem BD1 {Inv : List Own → Prop} {md : Region.Mode} {ops : Array Oper} {m i : Nat} {oi : Oper} {x : AV} {L : Array Bool → N7 → List Own → Prop} (hi : ops[i]? = some oi)
    (hs : Region.sinkB md ops m = true) (hc : Region.chainB md ops m = true) (hn : m < ops.size) (hin : i < m)
    (hdone : ∀ listed E W, L listed E W → ∀ j ∈ Region.ready md ops listed, m ≤ j) :
    ∀ (f : Nat) (listed : Array Bool) (E : N7) (W : List Own), HeadInv md ops m listed → Inv W →
      (∀ j oj, ops[j]? = some oj → j ≠ i → listed.getD j true = false → (∀ e ∈ oj.after, Region.binds md e = true → e.on ≠ i) → oi.apart ops oj = true) →
      i ∈ Region.ready md ops listed → (∀ W, Inv W → OpA P G n W ops oi E x) →
      Ai7 P G n Inv md ops m L f (listed.setIfInBounds i true) (y8 oi.dst x E) W → Ai7 P G n Inv md ops m L (f + 1) listed E W := by
  have put : ∀ {K : N7 → List Own → Prop} {E : N7} {W : List Own}, Inv W → (∀ W, Inv W → OpA P G n W ops oi E x) → K (y8 oi.dst x E) W → qB P G n Inv ops i K E W := fun hW hy hK => by
    unfold qB;simp only [hi];exact .inl ⟨x, hy _ hW, hK⟩
  intro f;induction f with
  | zero =>
    intro listed E W inv hW _ hr hy H;have hun := (mem_ready.1 hr).1;refine ⟨fun h => BF6, fun j hj => ?_⟩;have hjn : j < m := by
      rcases Nat.lt_or_ge j m with h | h
      · exact h
      · exact absurd hj (tail_waits hs hc hn inv _ i rfl hin hun j h)
    refine ⟨hjn, ?_⟩;by_cases hji : j = i
    · subst hji; exact put hW hy H
    · have := hdone _ _ _ H j (ready_mono hj hji)
      omega
  | succ f ih =>
    intro listed E W inv hW hfree hr hy H;have hun := (mem_ready.1 hr).1;refine ⟨fun h => BF6, fun j hj => ?_⟩;have hjn : j < m := by
      rcases Nat.lt_or_ge j m with h | h
      · exact h
      · exact absurd hj (tail_waits hs hc hn inv _ i rfl hin hun j h)
    refine ⟨hjn, ?_⟩;by_cases hji : j = i
    · subst hji; exact put hW hy H
    · have h1 := (H.2 j (ready_mono hj hji)).2
      obtain ⟨hjun, oj, hoj, hall⟩ := mem_ready.1 hj;have hnot : ∀ e ∈ oj.after, Region.binds md e = true → e.on ≠ i := fun e he hb heq => by
        have h1 := hall e he hb;rw [heq, getD_both hun] at h1
        cases h1
      have h2 := qB_put hoj (hfree j oj hoj hji hjun hnot) hW hy h1
      have hfree' : ∀ k ok, ops[k]? = some ok → k ≠ i → (listed.setIfInBounds j true).getD k true = false →
          (∀ e ∈ ok.after, Region.binds md e = true → e.on ≠ i) → oi.apart ops ok = true := fun k ok hk hki hun hno => by
        refine hfree k ok hk hki ?_ hno;by_cases hjk : j = k
        · subst hjk; exact hjun
        · rw [getD_set_ne true hjk] at hun; exact hun
      refine Co0 hW (fun E' W' hW' h3 => ih (listed.setIfInBounds j true) E' W' (inv.set hj hjn) hW' hfree' (ready_mono hr (Ne.symm hji)) h3.1 ?_) h2;rw [Array.setIfInBounds_comm _ _ hji];exact h3.2
def CF8 (md : Region.Mode) (ops : Array Oper) (g m : Nat) : List (Nat × Bool) → Array Bool → Bool
  | [], listed => Region.seqB md ops g m listed
  | (i, false) :: r, listed => (Region.ready md ops listed).contains i && Region.free md ops listed i && Nat.blt i m && CF8 md ops g m r (listed.setIfInBounds i true)
  | (i, true) :: r, listed => decide (Region.ready md ops listed = [i]) && Nat.blt i m && CF8 md ops g m r (listed.setIfInBounds i true)
def mixB (md : Region.Mode) (ops : Array Oper) (ord : List (Nat × Bool)) : Bool :=
  decide (ord.length < ops.size) && Region.sinkB md ops ord.length && Region.chainB md ops ord.length && CF8 md ops (ops.size - ord.length) ord.length ord (Array.replicate ops.size false)
def BCh (P : Program) (G : Nat → Prop) (n : Nat) (Inv : List Own → Prop) (ops : Array Oper) : List (Nat × Bool) → List (Nat × AV) → List Own → (List (Nat × AV) → List Own → Prop) → Prop
  | [], env, W, K => K env W
  | (i, false) :: r, env, W, K => ∃ o, ops[i]? = some o ∧ ∃ x, (∀ W', Inv W' → OpA P G n W' ops o (M8 · env) x) ∧ BCh P G n Inv ops r (BL5 o.dst x env) W K
  | (i, true) :: r, env, W, K => ∃ o, ops[i]? = some o ∧ o.guard = none ∧ ∃ (α : Type) (ok : α → Prop) (W' : α → List Own) (V : α → AV), OpE P G n W ops o (M8 · env) ok W' V ∧ (∀ a, ok a → Inv (W' a)) ∧ ∀ a, ok a → BCh P G n Inv ops r (BL5 o.dst (V a) env) (W' a) K
theorem BR0 {Inv : List Own → Prop} {md : Region.Mode} {ops : Array Oper} {m g : Nat} {K : List (Nat × AV) → List Own → Prop} (hs : Region.sinkB md ops m = true) (hc : Region.chainB md ops m = true) (hn : m < ops.size) :
    ∀ (l : List (Nat × Bool)) (listed : Array Bool) (env : List (Nat × AV)) (W : List Own), HeadInv md ops m listed → Inv W →
    CF8 md ops g m l listed = true → BCh P G n Inv ops l env W K →
    Ai7 P G n Inv md ops m (fun listed' E W => Region.seqB md ops g m listed' = true ∧ ∃ env', E = (M8 · env') ∧ K env' W) l.length listed (M8 · env) W
  | [], listed, env, W, _, _, hB, h => ⟨hB, env, rfl, h⟩
  | (i, false) :: l, listed, env, W, inv, hW, hB, h => by
    simp only [CF8, E8] at hB;obtain ⟨⟨⟨hr, hf⟩, hlt⟩, hB'⟩ := hB;have hkn : i < m := Nat.blt_eq.mp hlt;have hr' : i ∈ Region.ready md ops listed := by simpa using hr
    obtain ⟨o, ho, x, hx, hK⟩ := h;refine BD1 ho hs hc hn hkn (fun listed' E W hL => seqB_ready hL.1) l.length listed _ W inv hW (Region.free_spec ho hf) hr' hx ?_;rw [← e8];exact BR0 hs hc hn l _ _ W (inv.set hr' hkn) hW hB' hK
  | (i, true) :: l, listed, env, W, inv, hW, hB, h => by
    simp only [CF8, E8, H1] at hB;obtain ⟨⟨hr, hlt⟩, hB'⟩ := hB;have hkn : i < m := Nat.blt_eq.mp hlt;have hr' : i ∈ Region.ready md ops listed := by rw [hr]; simp
    obtain ⟨o, ho, hg, α, ok, W', V, h1, h2, h3⟩ := h;refine ⟨fun h0 => BF8, fun j hj => ?_⟩;rw [hr] at hj;have : j = i := by simpa using hj
    subst this;refine ⟨hkn, ?_⟩;unfold qB;simp only [ho];refine .inr ⟨hg, α, ok, W', V, h1, h2, fun a ha => ?_⟩;rw [← e8];exact BR0 hs hc hn l _ _ (W' a) (inv.set hr' hkn) (h2 a ha) hB' (h3 a ha)
theorem O8 {id : Nat} {l : List Oper} {Q : Exit → H2 → Prop} {env : List (Nat × AV)} {own : List Own} (base : List Own) (ord : List (Nat × Bool)) (hm : P.follows .mixedOrders = true) (hB : mixB .any l.toArray ord = true) (hd : BU6 n l = true) (hb : AV7 base own)
  (h : BCh P G n (AV7 base) l.toArray ord env own (fun env' W => Q5 P G n l.toArray (l.drop ord.length) ⟨W, env'⟩ (Q .normal))) : AWP P G n (.region id l.toArray true) Q ⟨own, env⟩ := fun w0 R0 R a w ⟨h1, h2, h3, h4⟩ => by
 simp only [mixB, E8, H1] at hB;obtain ⟨⟨⟨hn, hs⟩, hc⟩, hlex⟩ := hB;have hn' : ord.length < l.length := by simpa using hn
 have hdl : (l.drop ord.length).length = l.toArray.size - ord.length := by simp
 have inv0 : HeadInv .any l.toArray ord.length (Array.replicate l.toArray.size false) :=
  ⟨by simp, fun j oj _ hl => Bq0, fun t _ ht => getD_in BO9 (getD_replicate_false _ _)⟩
 have H := BR0 (g := l.toArray.size - ord.length) hs hc hn ord _ env own inv0 hb hlex h;refine wp_region_any hm ?_;have := AQ5 (w0 := w0) (R0 := R0) (R00 := R) (g := l.toArray.size - ord.length) (Q' := fun e a' w' => ∃ s' R', Q e s' ∧ J8 R R' ∧ St G n w0 R0 s' R' a' w') (fun i o ho d e => Af5 hd i o (by simpa using ho) d e) (fun listed E W R' a' w' g1 g2 g3 g4 g5 hL => by
  obtain ⟨hL1, env', rfl, hL2⟩ := hL
  have := wpAny_of_seq (P := P) (md := .any) (Q' := fun e a' w' => ∃ s' R', Q e s' ∧ J8 R R' ∧ St G n w0 R0 s' R' a' w') (l.drop ord.length) ord.length listed a' w' (fun j => by simp [AJ3]) Bp9
   (AG8 (R00 := R) (K := Q .normal) (fun s' R' a w q r1 r2 => ⟨s', R', q, r1, r2⟩) _ (⟨W, env'⟩ : H2) R' a' w' g1 ⟨g2, g3, g4, g5⟩ hL2)
  rwa [hdl] at this) _ _ _ own R a _ (J8.refl _) (Ab9 h1) h2 h3 h4 H
 rw [show ord.length + (l.toArray.size - ord.length) = l.toArray.size by omega] at this;exact this
section
variable {ops : Array Oper} {i : Nat} {o : Oper} {r : List (Nat × Bool)} {env : List (Nat × AV)} {W : List Own} {base : List Own} {K : List (Nat × AV) → List Own → Prop} {d : Nat} {x : AV}
theorem bc_nil {Inv : List Own → Prop} (h : K env W) : BCh P G n Inv ops [] env W K := h
theorem P4 (ho : ops[i]? = some o) (hg : o.guard = none) (hd : o.dst = some d) (h : ∀ ext, OpW P G n (base ++ ext) o (M8 · env) x) (k : BCh P G n (AV7 base) ops r ((d, x) :: env) W K) : BCh P G n (AV7 base) ops ((i, false) :: r) env W K :=
  ⟨o, ho, x, fun W' ⟨ext, e⟩ => by subst e; exact Av7 hg (h ext), by rw [hd]; exact k⟩
theorem T4 {Inv : List Own → Prop} {α : Type} {ok : α → Prop} {W' : α → List Own} {V : α → AV} (ho : ops[i]? = some o) (hg : o.guard = none) (hd : o.dst = some d) (h : OpE P G n W ops o (M8 · env) ok W' V) (hi : ∀ a, ok a → Inv (W' a)) (k : ∀ a, ok a → BCh P G n Inv ops r ((d, V a) :: env) (W' a) K) : BCh P G n Inv ops ((i, true) :: r) env W K :=
  ⟨o, ho, hg, α, ok, W', V, h, hi, fun a ha => by rw [hd]; exact k a ha⟩
section
variable {α : Type} {ok : α → Prop} {O : α → List Own} {V : α → AV} {E : N7} {f : FuncId} {args : Array Operand} {tys : Array TypeId} {ps : List Operand} {xs : List AV} {sel rest : List Own}
theorem Ak1 {p : Operand} {R : G9} {a : Act} (hev : Ev E p x) (hm : p ∈ o.op.operands.toList) (he : ∀ t ∈ o.looksAt ops, ∀ y, E t = some y → y.den R (a.tmps.getD t undef)) : x.den R (a.eval p) :=
  F9 hev hm fun t ht => he t (Af4 ht)
theorem P5 (is : List Nat) (ho : o.op = .call { callee := .value (.func f), args := args, argTypes := tys })
    (hc : ∀ (vs : Array Value) (w : World), (callFunc f vs).run P w = .ok (.enter f vs) w) (hps : args.toList = ps) (hs : K7 P f xs sel ok O V) (he : EvL E ps xs) (hp : pick W is = (sel, rest)) :
    OpE P G n W ops o E ok (fun a => rest ++ O a) V := fun w0 R0 R a w h1 h3 h2 => by
  have hcore := AW6 h1 hp;have hden := Af7 (o := o) (fun t ht => h2 t (Af4 ht)) he fun p hp => by simp [ho, Op.operands, Call.operands]; right; rw [← hps] at hp; exact Array.mem_toList_iff.1 hp
  have hrun : (execOp a.eval o).run P w = .ok (.enter f (ps.map a.eval).toArray) w := by
    have hargs : args.map a.eval = (ps.map a.eval).toArray := by rw [← hps]; cases args; simp
    simp only [execOp, ho, resolve, hargs, show a.eval (.func f) = .func (.func f) #[] #[] from rfl];simp [Deferred.ofValue, invoke, hc]
  unfold Oper.wp;rw [hrun, Oper.upon_enter];refine (hs R w _ hcore.rle hden (fun q hq => hcore.owned q (AF1 _ hq)) (m1 hcore).sep).mono fun e w' ⟨x, v, R', e0, e1, e2, e3⟩ => ?_;subst e1;exact ⟨x, v, R', e0, rfl, w8 (Am6 hcore e3) AJ7, AP4 hcore.rle e3.rold, e2⟩
end
end
end
section
variable {P : Program} {G : Nat → Prop} {n : Nat} {own : List Own} {o : Oper} {E : N7}
end
section
variable {P : Program} {G : Nat → Prop} {n : Nat} {own : List Own} {o : Oper} {E : N7}
theorem Ak2 {c : Code} {Q : Exit → H2 → Prop} {env : List (Nat × AV)} {v : Value} {e : TypeId} {sz : Nat} {es : List (List AV)} (i : Nat) (hi : own[i]? = some (.arr v e sz es)) (k1 : v = .slice none 0 0 → es = [] → AWP P G n c Q ⟨own, env⟩)
  (k2 : ∀ g cap, v = .slice (some ⟨g, 0, none⟩) es.length cap → es.length ≤ cap → cap ≤ 9223372036854775807 → AWP P G n c Q ⟨own, env⟩) : AWP P G n c Q ⟨own, env⟩ := fun w0 R0 R a w hs => by
 obtain ⟨_, _, xs, hown, _⟩ := hs.1.owned _ (C2 hi);rcases hown.2 with ⟨h1, h2⟩ | ⟨g, cap, cur, h1, _, _, hn, hm, _⟩
 ·exact k1 h1 (Ao1 h2) w0 R0 R a w hs
 exact k2 g cap h1 hn (by unfold maxLen at hm; omega) w0 R0 R a w hs
abbrev slv (g len cap : Nat) : Value := .slice (some ⟨g, 0, none⟩) len cap
section vals
variable {t e : TypeId} {p q q' q'' : Operand} {g len cap sz : Nat}
theorem Am7 {oa : Option Addr} (ho : o.op = .call { callee := .builtin .len, args := #[p], argTypes := #[t] }) (ht : P.underlying t = some (.slice e)) (hp : Ev E p (AV.is (.slice oa len cap))) : OpW P G n own o E (AV.int len) := O0 fun R a w _ he => by
  have h1 : a.eval p = _ := F9 hp Aa6 he;have hel : P.elem t = e := by simp [Program.elem, ht]
  have h2 := run_len_slice (P := P) w t o.type oa len cap AI3;exact ⟨.int .i64 len, by simp only [execOp, ho, resolve, invoke, builtin, AD6, U8, List.map_nil, h1, h2, Sem.run_bind, Sem.run_pure, Result.andThen_ok, goInt], rfl⟩
theorem w_vcap {oa : Option Addr} (ho : o.op = .call { callee := .builtin .cap, args := #[p], argTypes := #[t] }) (ht : P.underlying t = some (.slice e)) (hp : Ev E p (AV.is (.slice oa len cap))) : OpW P G n own o E (AV.int cap) := O0 fun R a w _ he => by
  have h1 : a.eval p = _ := F9 hp Aa6 he;have hel : P.elem t = e := by simp [Program.elem, ht]
  have h2 := run_cap_slice (P := P) w t o.type oa len cap AI3;exact ⟨.int .i64 cap, by simp only [execOp, ho, resolve, invoke, builtin, AD6, U8, List.map_nil, h1, h2, Sem.run_bind, Sem.run_pure, Result.andThen_ok, goInt], rfl⟩
theorem Bi8 (g hi cap sz : Nat) : sliced (some ⟨g, 0, none⟩) 0 hi cap sz = slv g hi cap := by
  unfold sliced;by_cases hc : cap = 0
  · simp [hc]
  · simp [hc, Addr.add]
theorem Br3 {hi : Int} (ho : o.op = .slice t p none (some q) none) (ht : P.underlying t = some (.slice e)) (hsz : ∀ w, (sizeOf e).run P w = .ok sz w) (hp : Ev E p (AV.is (slv g len cap))) (hq : Ev E q (AV.int hi)) (h0 : 0 ≤ hi) (h1 : hi ≤ cap) : OpW P G n own o E (AV.is (slv g hi.toNat cap)) := O0 fun R a w _ he => by
  have e1 : a.eval p = _ := F9 hp N5 he;have e2 : a.eval q = .int .i64 hi := F9 hq N5 he;have hel : P.elem t = e := by simp [Program.elem, ht]
  have hr1 := run_slice_h (P := P) (w := w) (t := t) (a := some ⟨g, 0, none⟩) (len := len) (cap := cap) AI3 .i64 hi h0 h1;rw [hel, hsz, Result.andThen_ok, Bi8] at hr1;exact ⟨_, by simp only [execOp, ho, e1, e2, r6, Option.map_none, run_sliceAt_slice w t _ _ _ _ AI3, hr1, Sem.run_bind, Sem.run_pure, Result.andThen_ok], rfl⟩
theorem AQ6 {lo : Int} (ho : o.op = .slice t p (some q) none none) (ht : P.underlying t = some (.slice e)) (hsz : ∀ w, (sizeOf e).run P w = .ok sz w) (hp : Ev E p (AV.is (slv g len cap))) (hq : Ev E q (AV.int lo)) (h0 : 0 ≤ lo) (h1 : lo ≤ len) : OpW P G n own o E (AV.is (sliced (some ⟨g, 0, none⟩) lo.toNat len cap sz)) := O0 fun R a w _ he => by
  have e1 : a.eval p = _ := F9 hp N5 he;have e2 : a.eval q = .int .i64 lo := F9 hq N5 he;have hel : P.elem t = e := by simp [Program.elem, ht]
  have hr1 := run_slice_l (P := P) (w := w) (t := t) (a := some ⟨g, 0, none⟩) (len := len) (cap := cap) AI3 .i64 lo h0 h1;rw [hel, hsz, Result.andThen_ok] at hr1;exact ⟨_, by simp only [execOp, ho, e1, e2, r6, Option.map_none, run_sliceAt_slice w t _ _ _ _ AI3, hr1, Sem.run_bind, Sem.run_pure, Result.andThen_ok], rfl⟩
theorem w_vlohi {lo hi : Int} (ho : o.op = .slice t p (some q) (some q') none) (ht : P.underlying t = some (.slice e)) (hsz : ∀ w, (sizeOf e).run P w = .ok sz w) (hp : Ev E p (AV.is (slv g len cap))) (hq : Ev E q (AV.int lo)) (hq' : Ev E q' (AV.int hi)) (h0 : 0 ≤ lo) (h1 : lo ≤ hi) (h2 : hi ≤ cap) : OpW P G n own o E (AV.is (sliced (some ⟨g, 0, none⟩) lo.toNat hi.toNat cap sz)) := O0 fun R a w _ he => by
  have e1 : a.eval p = _ := F9 hp N5 he;have e2 : a.eval q = .int .i64 lo := F9 hq N5 he;have e3 : a.eval q' = .int .i64 hi := F9 hq' N5 he;have hel : P.elem t = e := by simp [Program.elem, ht]
  have hr1 := run_slice_lh (P := P) (w := w) (t := t) (a := some ⟨g, 0, none⟩) (len := len) (cap := cap) AI3 .i64 .i64 lo hi h0 h1 h2;rw [hel, hsz, Result.andThen_ok] at hr1;exact ⟨_, by simp only [execOp, ho, e1, e2, e3, r6, Option.map_none, run_sliceAt_slice w t _ _ _ _ AI3, hr1, Sem.run_bind, Sem.run_pure, Result.andThen_ok], rfl⟩
theorem w_v3 {oa : Option Addr} {lo hi mx : Int} (ho : o.op = .slice t p (some q) (some q') (some q'')) (ht : P.underlying t = some (.slice e)) (hsz : ∀ w, (sizeOf e).run P w = .ok sz w) (hp : Ev E p (AV.is (.slice oa len cap))) (hq : Ev E q (AV.int lo)) (hq' : Ev E q' (AV.int hi)) (hq'' : Ev E q'' (AV.int mx)) (h0 : 0 ≤ lo) (h1 : lo ≤ hi) (h2 : hi ≤ mx) (h3 : mx ≤ cap) : OpW P G n own o E AV.any := O0 fun R a w _ he => by
  have e1 : a.eval p = _ := F9 hp N5 he;have e2 : a.eval q = .int .i64 lo := F9 hq N5 he;have e3 : a.eval q' = .int .i64 hi := F9 hq' N5 he;have e4 : a.eval q'' = .int .i64 mx := F9 hq'' N5 he;have hel : P.elem t = e := by simp [Program.elem, ht]
  have hb : (Instr.sliceBounds true len cap (some (.int .i64 lo)) (some (.int .i64 hi)) (some (.int .i64 mx))).run P w = .ok (lo.toNat, hi.toNat, mx.toNat) w := by
    have g1 : (hi.toNat : Int) = hi := Int.toNat_of_nonneg qz8;have g2 : (mx.toNat : Int) = mx := Int.toNat_of_nonneg qz8;simp [Instr.sliceBounds, run_sliceBound, *, (by omega : 0 ≤ hi), (by omega : 0 ≤ mx)]
  have hr1 := run_slice_any (P := P) (w := w) (t := t) (a := oa) (len := len) (cap := cap) AI3 (some (.int .i64 lo)) (some (.int .i64 hi)) (some (.int .i64 mx));rw [hb, Result.andThen_ok, hel, hsz, Result.andThen_ok] at hr1;dsimp only at hr1;exact ⟨sliced oa lo.toNat hi.toNat mx.toNat sz, by simp only [execOp, ho, e1, e2, e3, e4, r6, Option.map_none, run_sliceAt_slice w t _ _ _ _ AI3, hr1, Sem.run_bind, Sem.run_pure, Result.andThen_ok], trivial⟩
end vals
theorem BV4 (w : World) (dT sT ty elem : TypeId) {inf : TypeInfo} (g o dLen dCap : Nat) (a : Addr) (sLen sCap : Nat) (cur : Array Value) (t : TypeId) (cs : List Value)
    (hu : P.underlying dT = some (.slice elem)) (hi : P.info? elem = some inf)
    (hg : w.heap[g]? = some (.cells cur t (0, 0))) (hn : cs.length = Nat.min sLen dLen * inf.size)
    (hsrc : ∀ j v, cs[j]? = some v → w.cell? (a.add j) = some v) (hfit : o + cs.length ≤ cur.size) (h1 : ∀ v ∈ cs, v.oneCell' = true) :
    (Builtin.copy_ #[dT, sT] ty #[.slice (some ⟨g, o, none⟩) dLen dCap, .slice (some a) sLen sCap]).run P w =
      .ok (goInt (Nat.min sLen dLen)) (w.setRow g (cur.toList.take o ++ cs ++ cur.toList.drop (o + cs.length)).toArray) := by
  have hl := run_loadCells_list (P := P) w a cs hsrc;have hst := run_storeCells_at P g o t cs 0 cur w hg (by simpa using hfit) h1;simp [Builtin.copy_, run_underlying hu, Builtin.lenOf, Builtin.firstCells, sizeOf, typeInfo, hi, ← hn, hl, hst]
def M7 (own : List Own) (E : N7) (q : Operand) (sz : Nat) (fs : List (List AV)) : Prop :=
  ∀ (G : Nat → Prop) (w0 : World) (R0 R : G9) (a : Act) (w : World), T6 G w0 R0 own R w → (∀ t, q = .tmp t → ∀ y, E t = some y → y.den R (a.tmps.getD t undef)) →
    (∀ f ∈ fs, f.length = sz) ∧ (fs ≠ [] → ∃ ad cap vs, a.eval q = .slice (some ad) fs.length cap ∧ (∀ j u, vs[j]? = some u → w.cell? (ad.add j) = some u) ∧ l6 R vs fs.flatten)
theorem Ac5 {R : G9} {w : World} {g len cap : Nat} {e : TypeId} {sz : Nat} {es : List (List AV)} (h : Own.ok R w (.arr (slv g len cap) e sz es)) : len = es.length ∧ len ≤ cap ∧ cap ≤ maxLen ∧ (∀ x ∈ es, x.length = sz) ∧ ∃ (cur : Array Value) (xs : List Value), w.heap[g]? = some (.cells cur e (0, 0)) ∧ cur.size = cap * sz ∧ cur.toList.take (len * sz) = xs ∧ xs.length = len * sz ∧ l6 R xs es.flatten := by
  obtain ⟨_, hu, xs, hown, hd⟩ := h;rcases hown.2 with ⟨h1, _⟩ | ⟨g', cap', cur, h1, _, hg, hn, hm, hcs, htake⟩
  · cases h1
  · injection h1 with e1 e2 e3
    injection e1 with e1
    injection e1 with e1
    subst e1; subst e2; subst e3;exact ⟨rfl, hn, hm, hu, cur, xs, hg, hcs, htake, hown.1, hd⟩
theorem CB6 {q : Operand} {g len cap k : Nat} {e : TypeId} {sz : Nat} {es : List (List AV)} (i : Nat) (hi : own[i]? = some (.arr (slv g len cap) e sz es)) (hq : Ev E q (AV.is (sliced (some ⟨g, 0, none⟩) k len cap sz))) : M7 own E q sz (es.drop k) := fun G w0 R0 R a w hc he => by
  have e1 : a.eval q = _ := hq R a he;obtain ⟨hl, hlc, _, hu, cur, xs, hg, hcs, htake, hxl, hd⟩ := Ac5 (hc.owned _ (C2 hi));refine ⟨fun f hf => hu f (List.mem_of_mem_drop hf), fun hne => ?_⟩;have hk : k < es.length := by
    rcases Nat.lt_or_ge k es.length with h | h
    · exact h
    · exact absurd (k6 h) hne
  refine ⟨⟨g, k * sz, none⟩, cap - k, xs.drop (k * sz), ?_, fun j u hu' => ?_, ?_⟩
  · rw [e1]; unfold sliced
    rw [C6 qz8, r6, addr_add, Nat.zero_add, p7, hl]
  · rw [AJ3] at hu'
    have hjl : k * sz + j < len * sz := by rw [← hxl]; exact (E9.1 hu').1
    rw [addr_add];rw [← htake, AA8 hjl, Array.getElem?_toList] at hu';simp [World.cell?, hg, hu']
  · rw [AN3 k hu]
    exact ⟨by simp [hd.1], fun j v x hv hx => hd.2 _ v x (by rw [AJ3] at hv; exact hv) (by rw [AJ3] at hx; exact hx)⟩
theorem AX5 {q : Operand} {g len cap : Nat} {e : TypeId} {sz : Nat} {es : List (List AV)} (i : Nat) (hi : own[i]? = some (.arr (slv g len cap) e sz es)) (hq : Ev E q (AV.is (slv g len cap))) : M7 own E q sz es := by
  have := CB6 (k := 0) i hi (by rw [Bi8]; exact hq)
  rwa [List.drop_zero] at this
theorem BJ9 {g k m cap sz : Nat} (h : k < m) (hc : m ≤ cap) : sliced (some ⟨g, 0, none⟩) k m cap sz = .slice (some ⟨g, k * sz, none⟩) (m - k) (cap - k) := by
  unfold sliced;rw [C6 qz8, r6, addr_add, Nat.zero_add]
theorem CV9 {sz k : Nat} {es fs : List (List AV)} (hu : ∀ e ∈ es, e.length = sz) (hf : ∀ f ∈ fs, f.length = sz) : (es.take k ++ fs ++ es.drop (k + fs.length)).flatten = AI7 es.flatten (k * sz) fs.flatten := by
  rw [AU1, AU1, AF5 k hu, AN3 (k + fs.length) hu];unfold AI7;rw [m7 hf, Nat.add_mul]
theorem BB5 {ops : Array Oper} {rest : List Oper} {env : List (Nat × AV)} {K : H2 → Prop} {t e : TypeId} {p q : Operand} {d sz g len cap k m : Nat} {inf : TypeInfo} {es fs : List (List AV)} (i : Nat) (hg : o.guard = none) (ho : o.op = .call { callee := .builtin .copy, args := #[p, q], argTypes := #[t, t] }) (hd : o.dst = some d) (hn : Nat.blt d n = true)
    (ht : P.underlying t = some (.slice e)) (hinf : P.info? e = some inf) (hsz : inf.size = sz) (hp : Ev (M8 · env) p (AV.is (sliced (some ⟨g, 0, none⟩) k m cap sz))) (hq : M7 own (M8 · env) q sz fs) (hi : own[i]? = some (.arr (slv g len cap) e sz es))
    (hk : k + fs.length ≤ len) (hm : k + fs.length ≤ m) (hmc : m ≤ cap) (hne : fs ≠ []) (c : Q5 P G n ops rest ⟨own.set i (.arr (slv g len cap) e sz (es.take k ++ fs ++ es.drop (k + fs.length))), (d, AV.int fs.length) :: env⟩ K) : Q5 P G n ops (o :: rest) ⟨own, env⟩ K :=
  r7 hg fun w0 R0 R a w ⟨h1, h2, h3, h4⟩ => by
    have e1 : a.eval p = _ := AF3 (s := ⟨own, env⟩) (o := o) hp h2;obtain ⟨hfu, hsrc⟩ := hq G w0 R0 R a w h1 (fun t _ y hy => h2 t y hy);obtain ⟨ad, sc, vs, e2, hcell, hden⟩ := hsrc hne;have hpos : 0 < fs.length := List.length_pos_iff.2 hne;have hok := h1.owned _ (C2 hi);obtain ⟨hl, hlc, hcm, hu, cur, xs, hgw, hcs, htake, hxl, hdc⟩ := Ac5 hok;rw [BJ9 qz8 hmc] at e1;have hvl : vs.length = fs.length * sz := by rw [hden.1, m7 hfu]
    have hmin : Nat.min fs.length (m - k) = fs.length := Nat.min_eq_left qz8;have hone : ∀ u ∈ vs, u.oneCell' = true := fun u hmu => by
      obtain ⟨j, hj⟩ := X9 hmu;have hjl : j < fs.flatten.length := by rw [← hden.1]; exact (E9.1 hj).1
      exact (hden.2 j u _ hj (N6 hjl)).2
    have hb1 : k * sz + fs.length * sz ≤ len * sz := by rw [← Nat.add_mul]; exact t6 sz hk
    have hb2 : len * sz ≤ cap * sz := t6 sz hlc;have hr := BV4 (P := P) w t t o.type e g (k * sz) (m - k) (cap - k) ad fs.length sc cur e vs ht hinf hgw (by rw [hmin, hsz]; exact hvl) hcell (by rw [hvl, hcs]; omega) hone;rw [hmin] at hr;have hex : (execOp a.eval o).run P w = .ok (.value (.int .i64 fs.length)) (w.setRow g (cur.toList.take (k * sz) ++ vs ++ cur.toList.drop (k * sz + vs.length)).toArray) := by
      simp only [execOp, ho, resolve, invoke, builtin, Sem.run_bind, Sem.run_pure, Result.andThen_ok, AD6, U8, List.map_nil, e1, e2, hr, goInt]
    unfold Oper.wp;rw [hex, Oper.upon_value, hd];have hel : (es.take k ++ fs ++ es.drop (k + fs.length)).length = len := by simp; omega
    refine ⟨_, R, c, J8.refl _, AX3 h1 hi rfl rfl ⟨hok.1, fun z hz => ?_, xs.take (k * sz) ++ vs ++ xs.drop (k * sz + vs.length), ⟨?_, .inr ⟨g, cap, _, by rw [hel], E2 _, setRow_heap w g _ _ e _ hgw, by rw [hel]; exact hlc, hcm, ?_, ?_⟩⟩, ?_⟩ (AF4 w g _), AE3 h2 (J8.refl _) Ab7 rfl, by rw [size_put]; exact h3, by rw [c6]; exact h4⟩
    · rcases o5.1 hz with hz | hz
      · rcases o5.1 hz with hz | hz
        · exact hu z (AU0 hz)
        · exact hfu z hz
      · exact hu z (List.mem_of_mem_drop hz)
    · rw [hel]; simp only [H3, F4, p7, hxl, hvl]; omega
    · simp only [List.size_toArray, H3, F4, p7, w6, hvl, hcs]; omega
    · rw [hel, ← htake]
      exact Bi6 (by rw [w6, hcs]; exact hb2) (by rw [hvl]; exact hb1)
    · rw [CV9 hu hfu]
      exact Ai0 hdc hden (by rw [m7 hu, m7 hfu, ← hl]; exact hb1)
theorem CW0 {ops : Array Oper} {rest : List Oper} {env : List (Nat × AV)} {K : H2 → Prop} {t e : TypeId} {p q : Operand} {d sz g len cap k : Nat} {inf : TypeInfo} {es : List (List AV)} (i : Nat) (hg : o.guard = none) (ho : o.op = .call { callee := .builtin .copy, args := #[p, q], argTypes := #[t, t] }) (hd : o.dst = some d) (hn : Nat.blt d n = true)
    (ht : P.underlying t = some (.slice e)) (hinf : P.info? e = some inf) (hsz : inf.size = sz) (hp : Ev (M8 · env) p (AV.is (sliced (some ⟨g, 0, none⟩) (k + 1) (len + 1) cap sz))) (hq : Ev (M8 · env) q (AV.is (sliced (some ⟨g, 0, none⟩) k (len + 1) cap sz))) (hi : own[i]? = some (.arr (slv g len cap) e sz es))
    (hk : k < len) (hc : len + 1 ≤ cap) (c : ∀ j, Q5 P G n ops rest ⟨own.set i (.arr (slv g (len + 1) cap) e sz (es.take (k + 1) ++ es.drop k)), (d, AV.int j) :: env⟩ K) : Q5 P G n ops (o :: rest) ⟨own, env⟩ K :=
  r7 hg fun w0 R0 R a w ⟨h1, h2, h3, h4⟩ => by
    have e1 : a.eval p = _ := AF3 (s := ⟨own, env⟩) (o := o) hp h2;have e2 : a.eval q = _ := AF3 (s := ⟨own, env⟩) (o := o) hq h2;have hok := h1.owned _ (C2 hi);obtain ⟨hl, hlc, hcm, hu, cur, xs, hgw, hcs, htake, hxl, hdc⟩ := Ac5 hok;rw [BJ9 qz8 hc] at e1 e2;have hmin : Nat.min (len + 1 - k) (len + 1 - (k + 1)) = len - k := by
      show min (len + 1 - k) (len + 1 - (k + 1)) = len - k
      omega
    have hb1 : (k + 1) * sz + (len - k) * sz = (len + 1) * sz := by rw [← Nat.add_mul]; congr 1; omega
    have hb2 : (len + 1) * sz ≤ cap * sz := t6 sz hc;have hb3 : (k + 1) * sz ≤ len * sz := t6 sz qz8;have hb4 : len * sz ≤ cap * sz := t6 sz hlc;have hvl : (xs.drop (k * sz)).length = (len - k) * sz := by rw [p7, hxl, Nat.sub_mul]
    have hone : ∀ u ∈ xs.drop (k * sz), u.oneCell' = true := fun u hmu => by
      obtain ⟨j, hj⟩ := X9 (List.mem_of_mem_drop hmu);have hjl : j < es.flatten.length := by rw [← hdc.1]; exact (E9.1 hj).1
      exact (hdc.2 j u _ hj (N6 hjl)).2
    have hcell : ∀ j u, (xs.drop (k * sz))[j]? = some u → w.cell? ((⟨g, k * sz, none⟩ : Addr).add j) = some u := fun j u hu' => by
      rw [AJ3] at hu';have hjl : k * sz + j < len * sz := by rw [← hxl]; exact (E9.1 hu').1
      rw [addr_add];rw [← htake, AA8 hjl, Array.getElem?_toList] at hu';simp [World.cell?, hgw, hu']
    have hr := BV4 (P := P) w t t o.type e g ((k + 1) * sz) (len + 1 - (k + 1)) (cap - (k + 1)) ⟨g, k * sz, none⟩ (len + 1 - k) (cap - k) cur e (xs.drop (k * sz)) ht hinf hgw (by rw [hmin, hsz]; exact hvl) hcell (by rw [hvl, hcs]; omega) hone;rw [hmin] at hr;have hex : (execOp a.eval o).run P w = .ok (.value (.int .i64 ((len - k : Nat) : Int))) (w.setRow g (cur.toList.take ((k + 1) * sz) ++ xs.drop (k * sz) ++ cur.toList.drop ((k + 1) * sz + (xs.drop (k * sz)).length)).toArray) := by
      simp only [execOp, ho, resolve, invoke, builtin, Sem.run_bind, Sem.run_pure, Result.andThen_ok, AD6, U8, List.map_nil, e1, e2, hr, goInt]
    unfold Oper.wp;rw [hex, Oper.upon_value, hd];have hel : (es.take (k + 1) ++ es.drop k).length = len + 1 := by simp; omega
    refine ⟨_, R, c _, J8.refl _, AX3 h1 hi rfl rfl ⟨hok.1, fun z hz => ?_, xs.take ((k + 1) * sz) ++ xs.drop (k * sz), ⟨?_, .inr ⟨g, cap, _, by rw [hel], E2 _, setRow_heap w g _ _ e _ hgw, by rw [hel]; exact hc, hcm, ?_, ?_⟩⟩, ?_⟩ (AF4 w g _), AE3 h2 (J8.refl _) Ab7 rfl, by rw [size_put]; exact h3, by rw [c6]; exact h4⟩
    · rcases o5.1 hz with hz | hz
      · exact hu z (AU0 hz)
      · exact hu z (List.mem_of_mem_drop hz)
    · rw [hel, H3, hvl, F4, hxl]; omega
    · simp only [List.size_toArray, H3, F4, p7, w6, hcs, hxl]
      have : len * sz - k * sz = (len - k) * sz := (Nat.sub_mul _ _ _).symm;omega
    · rw [hel]
      show List.take ((len + 1) * sz) (cur.toList.take ((k + 1) * sz) ++ xs.drop (k * sz) ++ cur.toList.drop ((k + 1) * sz + (xs.drop (k * sz)).length)) = _
      have hl2 : (cur.toList.take ((k + 1) * sz) ++ xs.drop (k * sz)).length = (len + 1) * sz := by rw [H3, hvl, F4, w6, hcs]; omega
      rw [← hl2, List.take_left', ← htake, List.take_take, Nat.min_eq_left hb3];rfl
    · rw [AU1, AF5 (k + 1) hu, AN3 k hu]
      refine AI5 ⟨by simp [hdc.1], fun j u x hu' hx => ?_⟩ ⟨by simp [hdc.1], fun j u x hu' hx => ?_⟩
      · by_cases hj : j < (k + 1) * sz
        · rw [AA8 hj] at hu' hx; exact hdc.2 j u x hu' hx
        · rw [AO4 AB6] at hu'; cases hu'
      · rw [AJ3] at hu' hx; exact hdc.2 _ u x hu' hx
theorem zero_den {R : G9} {z : Value} {sz : Nat} (hzs : z.cells.size = sz) (h1z : z.cells.toList.all Value.oneCell' = true) (hpos : 0 < sz) (m : Nat) : l6 R (Builtin.zeroCells z.cells m).toList (List.replicate m (z.cells.toList.map j3)).flatten := by
  have hlz := Ar4 z sz hzs m;have hu : ∀ e ∈ List.replicate m (z.cells.toList.map j3), e.length = sz := fun e he => by rw [(Ah1.1 he).2]; simp [hzs]
  refine ⟨by rw [hlz.1, m7 hu]; simp, fun j u x hu' hx => ?_⟩;have hjl : j < m * sz := by rw [← hlz.1]; exact (E9.1 hu').1
  have hjm : j % sz < sz := Nat.mod_lt _ hpos;have hjd : j / sz < m := Nat.div_lt_of_lt_mul (by rw [Nat.mul_comm]; exact hjl);have hjj : j / sz * sz + j % sz = j := by rw [Nat.mul_comm]; exact Nat.div_add_mod j sz
  have hzj : z.cells.toList[j % sz]? = some (z.cells.toList[j % sz]'qz117) := N6 _;have hx2 := AC5 hu (i := j / sz) (e := z.cells.toList.map j3) qz191 (k := j % sz) (x := j3 (z.cells.toList[j % sz]'qz117)) (by rw [X2, hzj]; rfl);rw [hjj, hx] at hx2;injection hx2 with hx2
  have hu2 : u = z.cells.toList[j % sz]'qz117 := by
    rw [hlz.2 j u hu', getElem!_pos z.cells _ (by rw [hzs]; exact hjm)]; simp
  rw [hx2, hu2];exact ⟨AQ3 R _, l5.1 h1z _ Z1⟩
theorem Br4 {ops : Array Oper} {rest : List Oper} {env : List (Nat × AV)} {K : H2 → Prop} {t tn e : TypeId} {p q : Operand} {kn : IntKind} {d sz by' g len cap j m : Nat} {inf : TypeInfo} {z : Value} {es : List (List AV)} (i : Nat) (hg : o.guard = none) (ho : o.op = .call { callee := .builtin .append, args := #[p, q], argTypes := #[t, tn] }) (hd : o.dst = some d) (hn : Nat.blt d n = true)
    (ht : P.underlying t = some (.slice e)) (htn : P.underlying tn = some (.int kn)) (hinf : P.info? e = some inf) (hz : inf.zero = some z) (hsz : inf.size = sz) (hby : inf.bytes = by') (hzs : z.cells.size = sz) (hpos' : Nat.ble 1 sz = true) (h1z : z.cells.toList.all Value.oneCell' = true) (hp : Ev (M8 · env) p (AV.is (slv g j cap))) (hq : Ev (M8 · env) q (AV.int m)) (hi : own[i]? = some (.arr (slv g len cap) e sz es))
    (hj : j ≤ len) (hm : 0 < m) (hc : cap < j + m) (hlen : (j + m) * by' ≤ 140737488355328) (hlen2 : j + m ≤ 9223372036854775807) (k : ∀ g' cap', j + m ≤ cap' → Q5 P G n ops rest ⟨.arr (slv g' (j + m) cap') e sz (es.take j ++ List.replicate m (z.cells.toList.map j3)) :: own, (d, AV.is (slv g' (j + m) cap')) :: env⟩ K) : Q5 P G n ops (o :: rest) ⟨own, env⟩ K :=
  r7 hg fun w0 R0 R a w ⟨h1, h2, h3, h4⟩ => by
    have hpos := AB9 hpos';have e1 : a.eval p = _ := AF3 (s := ⟨own, env⟩) (o := o) hp h2;have e2 : a.eval q = .int .i64 m := AF3 (s := ⟨own, env⟩) (o := o) hq h2;obtain ⟨hl, hlc, hcm, hu, cur, xs, hgw, hcs, htake, hxl, hdc⟩ := Ac5 (h1.owned _ (C2 hi));have hb1 : j * sz ≤ len * sz := t6 sz hj;have hold : (Builtin.firstCells inf.size j (slv g j cap)).run P w.drew = .ok (xs.take (j * sz)).toArray w.drew := by
      have := run_loadCells_list (P := P) w.drew ⟨g, 0, none⟩ (xs.take (j * sz)) (fun i u hu' => by
        have hil : i < j * sz := by have := (E9.1 hu').1; rw [F4] at this; omega
        rw [AA8 hil, ← htake, AA8 qz8, Array.getElem?_toList] at hu';rw [addr_add, Nat.zero_add];show w.cell? _ = _
        simp [World.cell?, hgw, hu'])
      rw [F4, hxl, Nat.min_eq_left hb1] at this;simpa [Builtin.firstCells, hsz] using this
    have hr := Lib.run_append_grow_zeros (P := P) w t tn o.type e inf z .i64 kn ht htn hinf hz (some ⟨g, 0, none⟩) j cap _ hold m hm qz8 hc qz8 (by
      have : m * by' ≤ (j + m) * by' := t6 _ qz8;rw [hby]; omega) (by rw [hby]; exact growslice_fits hc hlen)
    have hex : (execOp a.eval o).run P w = .ok (.value (slv w.heap.size (j + m) (grownCap w (j + m) cap e))) (w.drew.alloc (.cells ((xs.take (j * sz)).toArray ++ Builtin.zeroCells z.cells m ++ Builtin.zeroCells z.cells (grownCap w (j + m) cap e - (j + m))) e)) := by
      simp only [execOp, ho, resolve, invoke, builtin, Sem.run_bind, Sem.run_pure, Result.andThen_ok, AD6, U8, List.map_nil, e1, e2, hr]
    unfold Oper.wp;rw [hex, Oper.upon_value, hd];have hge := grownCap_ge w (j + m) cap e;have hcm2 : grownCap w (j + m) cap e ≤ maxLen := grownCap_le_maxLen w (j + m) cap e Be6;have hl1 : (xs.take (j * sz)).length = j * sz := by rw [F4, hxl]; omega
    refine ⟨_, R, k _ _ hge, J8.refl _, AU5 (sz := sz) (m := j + m) (cap := grownCap w (j + m) cap e) (Ab9 h1) AB6 hge hcm2 ?_ (fun x hx => ?_) ?_, AE3 h2 (J8.refl _) Ab7 rfl, by rw [size_put]; exact h3, by rw [c6]; exact h4⟩
    · simp only [Array.size_append, List.size_toArray, size_zeroCells, hl1, hzs, ← Nat.add_mul]
      congr 1; omega
    · rcases o5.1 hx with hx | hx
      · exact hu x (AU0 hx)
      · rw [(Ah1.1 hx).2]; simp [hzs]
    · have hsz3 : ((xs.take (j * sz)).toArray ++ Builtin.zeroCells z.cells m).toList.length = (j + m) * sz := by simp only [w6, Array.size_append, List.size_toArray, size_zeroCells, hl1, hzs, Nat.add_mul]
      rw [Array.toList_append, List.take_left' hsz3, Array.toList_append, AU1];refine AI5 ?_ (zero_den hzs h1z qz8 m);rw [AF5 j hu];exact ⟨by simp [hdc.1], fun i u x hu' hx => by
        by_cases hij : i < j * sz
        · simp only [AA8 hij] at hu' hx; exact hdc.2 i u x hu' hx
        · rw [AO4 AB6] at hu'; cases hu'⟩
theorem Bi9 {f : FuncId} {fn : Func} {t e tb : TypeId} {p q : Operand} {tys : Array TypeId} {gv cv g len cap k m sz : Nat} {lv : Nat} {es vs : List (List AV)} (iv i : Nat) (ho : o.op = .call { callee := .value (.func f), args := #[p, q], argTypes := tys }) (hf : P.funcs[f]? = some fn) (hname : (fn.name == "runtime.NumGoroutine") = false) (hb : fn.body.isNone = true) (hnx : Extern.findNext fn = none) (he : Extern.find fn = some (Extern.SlicesOverlaps.overlaps #[t, t] #[tb]))
    (ht : P.underlying t = some (.slice e)) (hsz : ∀ w, (sizeOf e).run P w = .ok sz w) (hp : Ev E p (AV.is (slv gv lv cv))) (hq : Ev E q (AV.is (sliced (some ⟨g, 0, none⟩) k m cap sz))) (hiv : own[iv]? = some (.arr (slv gv lv cv) e sz vs)) (hi : own[i]? = some (.arr (slv g len cap) e sz es)) (hne : Nat.beq iv i = false) (hcap : 0 < cap) (hpos : Nat.ble 1 sz = true) :
    OpW P G n own o E (AV.bool false) := AF2 fun w0 R0 R a w hcr hen => by
  have e1 : a.eval p = _ := F9 hp Aa6 hen;have e2 : a.eval q = _ := F9 hq Aa6 hen;have hb1 := AB9 hpos;have hij : iv ≠ i := fun h => by rw [h, Nat.beq_refl] at hne; cases hne
  obtain ⟨_, _, _, _, curv, xsv, hgv, hcv, _⟩ := Ac5 (hcr.owned _ (C2 hiv));obtain ⟨_, _, _, _, cur, xs, hg, hcs, _⟩ := Ac5 (hcr.owned _ (C2 hi));have hgne : gv ≠ g := fun h => Bf1 hcr.sep hiv hi hij (b := gv) rfl (by rw [h]; rfl);obtain ⟨ad, lb, cb, hsl, hadb⟩ : ∃ ad lb cb, sliced (some ⟨g, 0, none⟩) k m cap sz = .slice (some ad) lb cb ∧ ad.block = g := by
    unfold sliced;by_cases h : cap = k
    · exact ⟨_, _, _, by rw [D0 h], rfl⟩
    · exact ⟨_, _, _, by rw [C6 h, r6], by rw [addr_add]⟩
  rw [hsl] at e2;have hkB : cap * sz ≠ 0 := Nat.mul_ne_zero qz8 qz8;have h3 := Lib.run_overlaps_apart (P := P) w t tb e ht sz hsz ⟨gv, 0, none⟩ ad lv cv lb cb (by rw [hadb]; exact hgne) e e curv.size cur.size (by simp [World.shape?, hgv]) (by simp [World.shape?, hadb, hg]) (by rw [hcs]; exact hkB) (by simp [World.frozen?, hgv]) (by simp [World.frozen?, hgv]);have h4 := run_callFunc_extern (P := P) hf hname hb hnx he #[slv gv lv cv, .slice (some ad) lb cb] w;rw [h3, Result.andThen_ok] at h4;refine ⟨.bool false, ?_, rfl⟩;simp only [execOp, ho, resolve, AD6, U8, List.map_nil, e1, e2, show a.eval (.func f) = .func (.func f) #[] #[] from rfl];simp [Deferred.ofValue, invoke, h4]
theorem Cz8 {ops : Array Oper} {rest : List Oper} {env : List (Nat × AV)} {K : H2 → Prop} {t e : TypeId} {p q : Operand} {d sz g len cap k j : Nat} {inf : TypeInfo} {es : List (List AV)} (i : Nat) (hg : o.guard = none) (ho : o.op = .call { callee := .builtin .append, args := #[p, q], argTypes := #[t, t] }) (hd : o.dst = some d) (hn : Nat.blt d n = true)
    (ht : P.underlying t = some (.slice e)) (hinf : P.info? e = some inf) (hsz : inf.size = sz) (hp : Ev (M8 · env) p (AV.is (slv g k cap))) (hq : Ev (M8 · env) q (AV.is (sliced (some ⟨g, 0, none⟩) j len cap sz))) (hi : own[i]? = some (.arr (slv g len cap) e sz es)) (hk : k ≤ j) (hj : j ≤ len)
    (c : Q5 P G n ops rest ⟨own.set i (.arr (slv g (k + (len - j)) cap) e sz (es.take k ++ es.drop j)), (d, AV.is (slv g (k + (len - j)) cap)) :: env⟩ K) : Q5 P G n ops (o :: rest) ⟨own, env⟩ K :=
  r7 hg fun w0 R0 R a w ⟨h1, h2, h3, h4⟩ => by
    have e1 : a.eval p = _ := AF3 (s := ⟨own, env⟩) (o := o) hp h2;have e2 : a.eval q = _ := AF3 (s := ⟨own, env⟩) (o := o) hq h2;have hok := h1.owned _ (C2 hi);obtain ⟨hl, hlc, hcm, hu, cur, xs, hgw, hcs, htake, hxl, hdc⟩ := Ac5 hok;obtain ⟨ad, cb, hsl, hadb⟩ : ∃ ad cb, sliced (some ⟨g, 0, none⟩) j len cap sz = .slice (some ad) (len - j) cb ∧ (j < len → ad = ⟨g, j * sz, none⟩) := by
      unfold sliced;by_cases h : cap = j
      · exact ⟨_, _, by rw [D0 h], fun h' => by omega⟩
      · exact ⟨_, _, by rw [C6 h, r6], fun _ => by rw [addr_add, Nat.zero_add]⟩
    rw [hsl] at e2;have hb0 : k * sz ≤ j * sz := t6 sz hk;have hb1 : j * sz ≤ len * sz := t6 sz hj;have hb4 : len * sz ≤ cap * sz := t6 sz hlc;have hvl : (xs.drop (j * sz)).length = (len - j) * sz := by rw [p7, hxl, Nat.sub_mul]
    have hsum : (len - j) * sz = len * sz - j * sz := Nat.sub_mul _ _ _;have hone : ∀ u ∈ xs.drop (j * sz), u.oneCell' = true := fun u hmu => by
      obtain ⟨i', hj'⟩ := X9 (List.mem_of_mem_drop hmu);have hjl : i' < es.flatten.length := by rw [← hdc.1]; exact (E9.1 hj').1
      exact (hdc.2 i' u _ hj' (N6 hjl)).2
    have hcell : ∀ i' u, (xs.drop (j * sz))[i']? = some u → w.cell? (ad.add i') = some u := fun i' u hu' => by
      rw [AJ3] at hu';have hjl : j * sz + i' < len * sz := by rw [← hxl]; exact (E9.1 hu').1
      have hjlt : j < len := by
        rcases Nat.lt_or_ge j len with h | h
        · exact h
        · have := t6 sz h; omega
      rw [hadb hjlt, addr_add];rw [← htake, AA8 hjl, Array.getElem?_toList] at hu';simp [World.cell?, hgw, hu']
    have hr := run_append_room (P := P) w t o.type e inf ht hinf g k cap cur hgw ad (len - j) cb (xs.drop (j * sz)) (by rw [hvl, hsz]) hcell hone qz8 (by rw [hvl, hcs, hsz]; omega);rw [hsz] at hr;have hex : (execOp a.eval o).run P w = .ok (.value (slv g (k + (len - j)) cap)) (w.setRow g (cur.toList.take (k * sz) ++ xs.drop (j * sz) ++ cur.toList.drop (k * sz + (xs.drop (j * sz)).length)).toArray) := by
      simp only [execOp, ho, resolve, invoke, builtin, Sem.run_bind, Sem.run_pure, Result.andThen_ok, AD6, U8, List.map_nil, e1, e2, hr]
    unfold Oper.wp;rw [hex, Oper.upon_value, hd];have hel : (es.take k ++ es.drop j).length = k + (len - j) := by simp; omega
    have hmul : (k + (len - j)) * sz = k * sz + (len - j) * sz := Nat.add_mul _ _ _;refine ⟨_, R, c, J8.refl _, AX3 h1 hi rfl rfl ⟨hok.1, fun z hz => ?_, xs.take (k * sz) ++ xs.drop (j * sz), ⟨?_, .inr ⟨g, cap, _, by rw [hel], E2 _, setRow_heap w g _ _ e _ hgw, by rw [hel]; omega, hcm, ?_, ?_⟩⟩, ?_⟩ (AF4 w g _), AE3 h2 (J8.refl _) Ab7 rfl, by rw [size_put]; exact h3, by rw [c6]; exact h4⟩
    · rcases o5.1 hz with hz | hz
      · exact hu z (AU0 hz)
      · exact hu z (List.mem_of_mem_drop hz)
    · rw [hel, H3, hvl, F4, hxl, hmul]; omega
    · simp only [List.size_toArray, H3, F4, p7, w6, hcs, hxl]; omega
    · rw [hel]
      show List.take ((k + (len - j)) * sz) (cur.toList.take (k * sz) ++ xs.drop (j * sz) ++ cur.toList.drop (k * sz + (xs.drop (j * sz)).length)) = _
      have hl2 : (cur.toList.take (k * sz) ++ xs.drop (j * sz)).length = (k + (len - j)) * sz := by rw [H3, hvl, F4, w6, hcs, hmul]; omega
      rw [← hl2, List.take_left', ← htake, List.take_take, Nat.min_eq_left qz8];rfl
    · rw [AU1, AF5 k hu, AN3 j hu]
      refine AI5 ⟨by simp [hdc.1], fun i' u x hu' hx => ?_⟩ ⟨by simp [hdc.1], fun i' u x hu' hx => ?_⟩
      · by_cases hj' : i' < k * sz
        · rw [AA8 hj'] at hu' hx; exact hdc.2 i' u x hu' hx
        · rw [AO4 AB6] at hu'; cases hu'
      · rw [AJ3] at hu' hx; exact hdc.2 _ u x hu' hx
theorem Cz9 {ops : Array Oper} {rs : List Oper} {env : List (Nat × AV)} {K : H2 → Prop} {t e : TypeId} {p : Operand} {z : Value} {sz g len cap lo hi : Nat} {es : List (List AV)} (i : Nat) (hg : o.guard = none) (ho : o.op = .call { callee := .builtin .clear, args := #[p], argTypes := #[t] }) (hd : o.dst = none)
    (ht : P.underlying t = some (.slice e)) (hz : ∀ w, (zeroValue e).run P w = .ok z w) (hzs : z.cells.size = sz) (h1z : z.cells.toList.all Value.oneCell' = true) (hpos : Nat.ble 1 sz = true) (hp : Ev (M8 · env) p (AV.is (sliced (some ⟨g, 0, none⟩) lo hi cap sz))) (hi' : own[i]? = some (.arr (slv g len cap) e sz es)) (h1 : len ≤ lo) (h2 : lo ≤ hi) (h3 : hi ≤ cap)
    (c : Q5 P G n ops rs ⟨own, env⟩ K) : Q5 P G n ops (o :: rs) ⟨own, env⟩ K :=
  r7 hg fun w0 R0 R a w ⟨h1', h2', h3', h4'⟩ => by
    have e1 : a.eval p = _ := AF3 (s := ⟨own, env⟩) (o := o) hp h2';have hok := h1'.owned _ (C2 hi');obtain ⟨hl, hlc, hcm, hu, cur, xs, hgw, hcs, htake, hxl, hdc⟩ := Ac5 hok;have hb1 := AB9 hpos;by_cases hlh : lo = hi
    · have hex : (execOp a.eval o).run P w = .ok (.value (.tuple #[])) w := by
        subst hlh;simp only [execOp, ho, resolve, invoke, builtin, AD6, U8, List.map_nil, e1, sliced, Nat.sub_self, Sem.run_bind, Sem.run_pure, Result.andThen_ok];by_cases hc : cap = lo <;> simp [Builtin.clear_, run_underlying ht, hc]
      unfold Oper.wp;rw [hex, Oper.upon_value, hd];exact ⟨_, R, c, J8.refl _, h1', h2', h3', h4'⟩
    · obtain ⟨m, hm⟩ : ∃ m, hi - lo = m + 1 := ⟨hi - lo - 1, by omega⟩
      rw [BJ9 qz8 h3, hm] at e1;have hlz := Ar4 z sz hzs (m + 1);have hone : ∀ u ∈ (Builtin.zeroCells z.cells (m + 1)).toList, u.oneCell' = true := fun u hu => by
        obtain ⟨j, hj⟩ := X9 hu;rw [hlz.2 j u hj, getElem!_pos z.cells _ (by rw [hzs]; exact Nat.mod_lt _ qz8)];exact l5.1 h1z _ Z1
      have hmul : lo * sz + (m + 1) * sz = hi * sz := by rw [← Nat.add_mul]; congr 1; omega
      have hmc : hi * sz ≤ cap * sz := t6 sz h3;have hml : len * sz ≤ lo * sz := t6 sz h1;have hst := run_storeCells_at (P := P) g (lo * sz) e (Builtin.zeroCells z.cells (m + 1)).toList 0 cur w hgw (by rw [hlz.1, hcs]; omega) hone;simp only [Nat.add_zero, hlz.1] at hst;have hex : (execOp a.eval o).run P w = .ok (.value (.tuple #[])) (w.setRow g (cur.toList.take (lo * sz) ++ (Builtin.zeroCells z.cells (m + 1)).toList ++ cur.toList.drop (lo * sz + (m + 1) * sz)).toArray) := by
        simp only [execOp, ho, resolve, invoke, builtin, AD6, U8, List.map_nil, e1, Sem.run_bind, Sem.run_pure, Result.andThen_ok];simp [Builtin.clear_, run_underlying ht, hz, hst]
      unfold Oper.wp;rw [hex, Oper.upon_value, hd];have hset : own.set i (.arr (slv g len cap) e sz es) = own := by
        obtain ⟨hlt, heq⟩ := E9.1 hi';rw [← heq]; exact List.set_getElem_self hlt
      obtain ⟨cur', hcur'⟩ : ∃ cur' : Array Value, cur' = (cur.toList.take (lo * sz) ++ (Builtin.zeroCells z.cells (m + 1)).toList ++ cur.toList.drop (lo * sz + (m + 1) * sz)).toArray := ⟨_, rfl⟩;have hs1 : cur'.size = cap * sz := by
        rw [hcur']; simp only [List.size_toArray, H3, F4, p7, hlz.1, w6, hcs]; omega
      have hs2 : cur'.toList.take (len * sz) = xs := by
        rw [hcur', ← htake];show List.take (len * sz) (cur.toList.take (lo * sz) ++ (Builtin.zeroCells z.cells (m + 1)).toList ++ cur.toList.drop (lo * sz + (m + 1) * sz)) = _
        rw [f4, List.take_append_of_le_length (by rw [F4, w6, hcs]; omega), List.take_take, Nat.min_eq_left hml]
      rw [← hcur'];have hcore := AX3 (y := .arr (slv g len cap) e sz es) h1' hi' rfl rfl ⟨hok.1, hu, xs, ⟨by rw [hxl, hl], .inr ⟨g, cap, cur', by rw [hl], E2 _, setRow_heap w g _ _ e _ hgw, by rw [← hl]; exact hlc, hcm, hs1, by rw [← hl]; exact hs2⟩⟩, hdc⟩ (AF4 w g cur');rw [hset] at hcore;exact ⟨_, R, c, J8.refl _, hcore, h2', h3', h4'⟩
end
section
variable {P : Program} {G : Nat → Prop} {n : Nat} {own : List Own} {o : Oper} {E : N7}
theorem L4 {ops : Array Oper} {t e : TypeId} {p q : Operand} {sz by' : Nat} {inf : TypeInfo} {z : Value} {v : Value} {es fs : List (List AV)} (i : Nat) (ho : o.op = .call { callee := .builtin .append, args := #[p, q], argTypes := #[t, t] }) (ht : P.underlying t = some (.slice e)) (hinf : P.info? e = some inf) (hz : inf.zero = some z) (hsz : inf.size = sz) (hby : inf.bytes = by') (hzs : z.cells.size = sz) (hpos : Nat.ble 1 sz = true) (hpos2 : Nat.ble 1 by' = true) (hp : Ev E p (AV.is v)) (hq : Ev E q (AV.list sz fs)) (hi : own[i]? = some (.arr v e sz es))
    (hlen : (es.length + fs.length) * by' ≤ 140737488355328) : OpE P G n own ops o E (fun _ : Value => True) (fun v' => own.set i (.arr v' e sz (es ++ fs))) (fun v' => AV.is v') :=
  fun w0 R0 R a w h1 h3 h2 => by
    have e1 : a.eval p = v := Ak1 (ops := ops) hp Aa6 h2;obtain ⟨oa, c, e2, hc1, hc2, hu, hcell⟩ := Ak1 (ops := ops) hq Aa6 h2;obtain ⟨hR, hue, xs, hown, hdc⟩ := h1.owned _ (C2 hi);have hb1 := AB9 hpos;have hb2 := AB9 hpos2;have hsum : es.length + fs.length ≤ 140737488355328 := L8 (Nat.le_mul_of_pos_right _ hb2) hlen;have hufs : ∀ x ∈ es ++ fs, x.length = sz := fun x hx => by
      rcases o5.1 hx with h | h
      · exact hue x h
      · exact hu x h
    by_cases hfs : fs = []
    · subst hfs
      have hrun : ∃ v', (Builtin.append_ #[t, t] o.type #[v, a.eval q]).run P w = .ok v' w ∧ v' = v := by
        refine ⟨v, ?_, rfl⟩;rw [e2];rcases hown.2 with ⟨rfl, hz0⟩ | ⟨g, cap, cur, rfl, _, _, hnc, _⟩
        · cases oa with
          | none => simp [Builtin.append_, run_underlying ht, sizeOf, typeInfo, hinf, Builtin.lenOf, Builtin.firstCells, hz0]
          | some ad => simp [Builtin.append_, run_underlying ht, sizeOf, typeInfo, hinf, Builtin.lenOf, Builtin.firstCells, loadCells, loadCellsFrom, hz0]
        · cases oa with
          | none => simp [Builtin.append_, run_underlying ht, sizeOf, typeInfo, hinf, Builtin.lenOf, Builtin.firstCells, hnc, storeCells]
          | some ad => simp [Builtin.append_, run_underlying ht, sizeOf, typeInfo, hinf, Builtin.lenOf, Builtin.firstCells, loadCells, loadCellsFrom, hnc, storeCells]
      obtain ⟨v', hr, rfl⟩ := hrun;have hex : (execOp a.eval o).run P w = .ok (.value v') w := by
        simp only [execOp, ho, resolve, invoke, builtin, Sem.run_bind, Sem.run_pure, Result.andThen_ok, AD6, U8, List.map_nil, e1, hr]
      unfold Oper.wp;rw [hex, Oper.upon_value];have hset : own.set i (.arr v' e sz (es ++ [])) = own := by
        rw [Q6];obtain ⟨hlt, he⟩ := E9.1 hi;rw [← he]; exact List.set_getElem_self hlt
      exact ⟨v', v', R, trivial, rfl, by show T6 G w0 R0 (own.set i (.arr v' e sz (es ++ []))) R w; rw [hset]; exact h1, J8.refl _, rfl⟩
    · obtain ⟨ad, rfl, hca⟩ := hcell hfs
      obtain ⟨ns, hn1, hn2, hn3⟩ := Br0 (sz := sz) h1.rle hca;have hnl : ns.length = fs.length * sz := by rw [hn1, m7 hu]
      have hone : ∀ u ∈ ns, u.oneCell' = true := fun u hm => by
        obtain ⟨j, hj⟩ := X9 hm;have hjl : j < fs.flatten.length := by rw [← hn1]; exact (E9.1 hj).1
        exact (hn3.2 j u _ hj (N6 hjl)).2
      obtain ⟨v', w', hr, hown', hgr, _, hblk⟩ := run_append_own_at (P := P) w 0 t o.type e inf z sz by' ht hinf hz hsz hby hzs hb1 v es.length xs hown ad fs.length c ns hnl hn2 hone Be6 hlen (E2 _);have hex : (execOp a.eval o).run P w = .ok (.value v') w' := by
        simp only [execOp, ho, resolve, invoke, builtin, Sem.run_bind, Sem.run_pure, Result.andThen_ok, AD6, U8, List.map_nil, e1, e2, hr]
      unfold Oper.wp;rw [hex, Oper.upon_value];refine ⟨v', v', R, trivial, rfl, Av8 h1 hi (fun b hb => ?_) ⟨fun b hb => ?_, hufs, xs ++ ns, ?_, ?_⟩ hgr, J8.refl _, rfl⟩
      · simp only [Own.blk] at hb ⊢
        rcases hblk with h | h
        · exact .inl BF5
        · rw [hb] at h; injection h with h; exact .inr h
      · rcases hblk with h | h
        · exact hR b BF5
        · rw [hb] at h; injection h with h; subst h; exact Ar0 h1.rle
      · rw [H3]; exact hown'
      · rw [AU1]; exact AI5 hdc hn3
theorem o9 {ops : Array Oper} {t e : TypeId} {sz : Nat} (ho : o.op = .buildSlice t 0 #[]) (ht : P.underlying t = some (.slice e)) (hs : ∀ w, (sizeOf e).run P w = .ok sz w)
    : OpE P G n own ops o E (fun _ : Value => True) (fun v' => own ++ [.arr v' e sz []]) (fun v' => AV.is v') :=
  fun w0 R0 R a w h1 h3 h2 => by
    have hex : (execOp a.eval o).run P w = .ok (.value (.slice (some ⟨w.heap.size, 0, none⟩) 0 0)) (w.alloc (.cells #[] e)) := by
      simp [execOp, ho, Instr.buildSlice, run_underlying ht, hs, newRow, Instr.fill, go_sem]
    unfold Oper.wp;rw [hex, Oper.upon_value];exact ⟨_, _, R, trivial, rfl, w8 (AU5 h1 rfl (K5 _) (E2 _) Z1 (fun x hx => by simp at hx) ⟨by simp, fun i v x h => by simp at h⟩) (AJ7 (l₁ := [_])), J8.refl _, rfl⟩
theorem Az5 {ops : Array Oper} {t e : TypeId} {len sz : Nat} {z : Value} {ps : Array (Nat × Operand)} {asl : List (Nat × List AV)} {cs : List AV} {es : List (List AV)} (ho : o.op = .buildSlice t len ps) (ht : P.underlying t = some (.slice e)) (hsz : ∀ w, (sizeOf e).run P w = .ok sz w) (hz : ∀ w, (zeroValue e).run P w = .ok z w)
    (hl : Nat.ble (len * sz) 1000 = true) (hl2 : Nat.ble len 1000 = true) (hzs : z.cells.size = sz) (h1' : z.cells.toList.all Value.oneCell' = true) (hp : EvP E ps.toList asl) (hc : AY5 (fun i => some (i * sz, sz)) ((List.range (len * sz)).map fun i => j3 (z.cells[i % z.cells.size]!)) asl = some cs) (hes : chunks sz len cs = es)
    : OpE P G n own ops o E (fun _ : Value => True) (fun v' => own ++ [.arr v' e sz es]) (fun v' => AV.is v') :=
  fun w0 R0 R a w h1 h3 h2 => by
    obtain ⟨k1, k2⟩ := BL9 (o := o) (fun t ht => h2 t (Af4 ht)) hp fun p hpm => by simp [ho, Op.operands]; exact ⟨p.1, by simpa using hpm⟩
    have hone : ∀ i, i < len * sz → (z.cells[i % z.cells.size]!).oneCell' = true := fun i hi => by
      have hpos : 0 < z.cells.size := by
        rw [hzs];rcases Nat.eq_zero_or_pos sz with h0 | h0
        · subst h0; simp at hi
        · exact h0
      rw [getElem!_pos z.cells _ (Nat.mod_lt _ hpos)];exact l5.1 h1' _ Z1
    obtain ⟨cells', f2, f3⟩ := BD0 (R := R) (place := fun i => some (i * sz, sz)) _ asl ((Array.range (len * sz)).map fun i => z.cells[i % z.cells.size]!) _ cs ⟨by simp, fun i v y hv hy => by
      rw [Array.toList_map, X2, Array.toList_range] at hv;rw [X2] at hy;by_cases hi : i < len * sz
      · rw [List.getElem?_range hi] at hv hy
        simp only [r6, Option.some.injEq] at hv hy;rw [← hv, ← hy];exact ⟨AQ3 R _, hone i hi⟩
      · rw [AO4 AB6] at hv; cases hv⟩ k1 k2 hc
    have hlen := AB9 hl;have h5 : cells'.toList.length = len * sz := by
      rw [f3.1, BX9 asl _ cs hc]; simp
    have hch := Au6 sz len cs (by rw [← f3.1]; exact h5);have h6 : (ps.map fun (i, x) => (i, a.eval x)).toList = ps.toList.map fun p => (p.1, a.eval p.2) := by simp
    have hrun : (execOp a.eval o).run P w = .ok (.value (.slice (some ⟨w.heap.size, 0, none⟩) len len)) (w.alloc (.cells cells' e)) := by
      have hcap : ¬ (len * sz > 2 ^ 24) := by omega
      by_cases h0 : len * sz = 0
      · have h7 : (Array.range (len * sz)).map (fun x => (#[] : Array Value)[x % (#[] : Array Value).size]!) = (Array.range (len * sz)).map fun i => z.cells[i % z.cells.size]! := by rw [h0]; simp
        rw [← h7] at f2;simp only [execOp, ho, Instr.buildSlice, run_underlying ht, hsz, hcap, if_false, Sem.run_bind, Sem.run_pure, Result.andThen_ok, Sem.run_ite, D0 h0, h6, f2, newRow, run_newObj, World.alloc_eq]
      · simp only [execOp, ho, Instr.buildSlice, run_underlying ht, hsz, hcap, if_false, Sem.run_bind, Sem.run_pure, Result.andThen_ok, Sem.run_ite, C6 h0, hz, h6, f2, newRow, run_newObj, World.alloc_eq]
    unfold Oper.wp;rw [hrun, Oper.upon_value];have hlz : es.length = len := by rw [← hes, V8]
    refine ⟨_, _, R, trivial, rfl, w8 (AU5 (sz := sz) (m := len) (cap := len) (es := es) h1 hlz (K5 _) (by have := AB9 hl2; unfold maxLen; omega) (by rw [← w6]; exact h5) (by rw [← hes]; exact hch.2) ?_) (AJ7 (l₁ := [_])), J8.refl _, rfl⟩;rw [P8 (by rw [h5]; exact K5 _), ← hes, hch.1];exact f3
theorem Az6 {ops : Array Oper} {rest : List Oper} {env : List (Nat × AV)} {K : H2 → Prop} {t e : TypeId} {p q : Operand} {d sz by' : Nat} {inf : TypeInfo} {z : Value} {v : Value} {es fs : List (List AV)} (i : Nat) (hg : o.guard = none) (ho : o.op = .call { callee := .builtin .append, args := #[p, q], argTypes := #[t, t] }) (hd : o.dst = some d) (hn : Nat.blt d n = true)
    (ht : P.underlying t = some (.slice e)) (hinf : P.info? e = some inf) (hz : inf.zero = some z) (hsz : inf.size = sz) (hby : inf.bytes = by') (hzs : z.cells.size = sz) (hpos : Nat.ble 1 sz = true) (hpos2 : Nat.ble 1 by' = true) (hp : Ev (M8 · env) p (AV.is v)) (hq : M7 own (M8 · env) q sz fs) (hne : fs ≠ []) (hi : own[i]? = some (.arr v e sz es))
    (hlen : (es.length + fs.length) * by' ≤ 140737488355328) (k : ∀ v', Q5 P G n ops rest ⟨own.set i (.arr v' e sz (es ++ fs)), (d, AV.is v') :: env⟩ K) : Q5 P G n ops (o :: rest) ⟨own, env⟩ K :=
  r7 hg fun w0 R0 R a w ⟨h1, h2, h3, h4⟩ => by
    have e1 : a.eval p = v := AF3 (s := ⟨own, env⟩) (o := o) hp h2;obtain ⟨hu, hsrc⟩ := hq G w0 R0 R a w h1 (fun t _ y hy => h2 t y hy);obtain ⟨ad, c, ns, e2, hn2, hn3⟩ := hsrc hne;obtain ⟨hR, hue, xs, hown, hdc⟩ := h1.owned _ (C2 hi);have hb1 := AB9 hpos;have hb2 := AB9 hpos2;have hsum : es.length + fs.length ≤ 140737488355328 := L8 (Nat.le_mul_of_pos_right _ hb2) hlen;have hufs : ∀ x ∈ es ++ fs, x.length = sz := fun x hx => by
      rcases o5.1 hx with h | h
      · exact hue x h
      · exact hu x h
    have hnl : ns.length = fs.length * sz := by rw [hn3.1, m7 hu]
    have hone : ∀ u ∈ ns, u.oneCell' = true := fun u hm => by
      obtain ⟨j, hj⟩ := X9 hm;have hjl : j < fs.flatten.length := by rw [← hn3.1]; exact (E9.1 hj).1
      exact (hn3.2 j u _ hj (N6 hjl)).2
    obtain ⟨v', w', hr, hown', hgr, _, hblk⟩ := run_append_own_at (P := P) w 0 t o.type e inf z sz by' ht hinf hz hsz hby hzs hb1 v es.length xs hown ad fs.length c ns hnl hn2 hone Be6 hlen (E2 _);have hex : (execOp a.eval o).run P w = .ok (.value v') w' := by
      simp only [execOp, ho, resolve, invoke, builtin, Sem.run_bind, Sem.run_pure, Result.andThen_ok, AD6, U8, List.map_nil, e1, e2, hr]
    unfold Oper.wp;rw [hex, Oper.upon_value, hd];refine ⟨_, R, k v', J8.refl _, Av8 h1 hi (fun b hb => ?_) ⟨fun b hb => ?_, hufs, xs ++ ns, ?_, ?_⟩ hgr, AE3 h2 (J8.refl _) Ab7 rfl, by rw [size_put]; exact h3, by rw [c6]; exact h4⟩
    · simp only [Own.blk] at hb ⊢
      rcases hblk with h | h
      · exact .inl BF5
      · rw [hb] at h; injection h with h; exact .inr h
    · rcases hblk with h | h
      · exact hR b BF5
      · rw [hb] at h; injection h with h; subst h; exact Ar0 h1.rle
    · rw [H3]; exact hown'
    · rw [AU1]; exact AI5 hdc hn3
end
end Go.AV
namespace Go.AV
section
variable {P : Program} {G : Nat → Prop} {n : Nat} {own : List Own}
theorem S4 {t : List Own} {env : List (Nat × AV)} (k : Nat) (h : (own.drop k).Perm t) : Le G n ⟨own, env⟩ ⟨own.take k ++ t, env⟩ :=
  le_perm (by
    have := List.Perm.append_left (own.take k) h;rw [Ab0] at this;exact this)
theorem B7 {t : List Own} : t.Perm (t ++ []) := by rw [Q6]
theorem M0 {t : List Own} : (t ++ []).Perm t := by rw [Q6]
theorem BR1 {sel rest : List Own} {is : List Nat} (h : pick own is = (sel, rest)) : own.Perm (sel ++ rest) := by
  induction is generalizing own sel rest with
  | nil => unfold pick at h; injection h with h1 h2; subst h1; subst h2; exact List.Perm.refl _
  | cons i is ih =>
    unfold pick at h
    cases hi : own[i]? with
    | none => rw [hi] at h; injection h with h1 h2; subst h1; subst h2; exact List.Perm.refl _
    | some x =>
      rw [hi] at h;injection h with h1 h2; subst h1; subst h2
      exact (BQ7 hi).trans (List.Perm.cons x (ih rfl))
section
variable {o : Oper} {E : N7}
theorem s6 {ops : Array Oper} {t e : TypeId} {p q : Operand} {sz by' m : Nat} {inf : TypeInfo} {z : Value} (ho : o.op = .makeSlice t p q)
    (ht : P.underlying t = some (.slice e)) (hinf : P.info? e = some inf) (hz : inf.zero = some z) (hsz : inf.size = sz) (hby : inf.bytes = by') (hzs : z.cells.size = sz) (hpos : Nat.ble 1 sz = true) (h1' : z.cells.toList.all Value.oneCell' = true) (hp : Ev E p (AV.int m)) (hq : Ev E q (AV.int m))
    (hlen : m * by' ≤ 281474976710656) (hlen2 : m ≤ 281474976710656) : OpE P G n own ops o E (fun _ : Value => True) (fun v' => own ++ [.arr v' e sz (List.replicate m (z.cells.toList.map j3))]) (fun v' => AV.is v') :=
  fun w0 R0 R a w h1 h3 h2 => by
    have e1 : a.eval p = .int .i64 m := Ak1 (ops := ops) hp N5 h2;have e2 : a.eval q = .int .i64 m := Ak1 (ops := ops) hq N5 h2;have hb1 := AB9 hpos;have hr := run_make (P := P) w t e inf z ht hinf hz .i64 .i64 (m : Int) (m : Int) qz8 qz8 (by rw [hby]; have h9 : ((m * by' : Nat) : Int) ≤ 281474976710656 := qz8; rw [Int.natCast_mul] at h9; rw [Int.mul_comm]; exact h9) qz8;simp only [l4] at hr;have hex : (execOp a.eval o).run P w = .ok (.value (.slice (some ⟨w.heap.size, 0, none⟩) m m)) (w.alloc (.cells (madeCells z.cells (m * inf.size)) e)) := by
      simp only [execOp, ho, e1, e2, hr, Sem.run_bind, Sem.run_pure, Result.andThen_ok]
    unfold Oper.wp;rw [hex, Oper.upon_value];have hms : (madeCells z.cells (m * inf.size)).size = m * sz := by rw [size_madeCells, hsz]
    refine ⟨_, _, R, trivial, rfl, w8 (AU5 h1 Z1 (K5 _) Be6 hms (fun x hx => ?_) ⟨?_, fun j v x hv hx => ?_⟩) (AJ7 (l₁ := [_])), J8.refl _, rfl⟩
    · rw [(Ah1.1 hx).2]; simp [hzs]
    · rw [m7 (sz := sz) (fun x hx => by rw [(Ah1.1 hx).2]; simp [hzs])]
      simp [hms]
    · have hj : j < m * sz := by
        have := (E9.1 hx).1;rw [m7 (sz := sz) (fun x hx => by rw [(Ah1.1 hx).2]; simp [hzs])] at this;simpa using this
      have hjm : j % sz < sz := Nat.mod_lt _ qz8;have hjj : j / sz * sz + j % sz = j := by rw [Nat.mul_comm]; exact Nat.div_add_mod j sz
      have hjd : j / sz < m := Nat.div_lt_of_lt_mul (by rw [Nat.mul_comm]; exact hj);have hzj : z.cells.toList[j % sz]? = some (z.cells.toList[j % sz]'qz117) := N6 _;have hx2 := AC5 (sz := sz) (es := List.replicate m (z.cells.toList.map j3)) (fun x hx => by rw [(Ah1.1 hx).2]; simp [hzs]) (i := j / sz) (e := z.cells.toList.map j3) qz191 (k := j % sz) (x := j3 (z.cells.toList[j % sz]'qz117)) (by rw [X2, hzj]; rfl);rw [hjj, hx] at hx2;injection hx2 with hx2
      rw [AA8 hj] at hv;have hv2 : v = z.cells.toList[j % sz]'qz117 := by
        unfold madeCells at hv;rw [hsz] at hv;simp only [Array.toList_map, Array.toList_range, X2, List.getElem?_range hj, r6, Option.some.injEq] at hv;rw [← hv, hzs, getElem!_pos z.cells _ (by rw [hzs]; exact hjm)];simp
      rw [hx2, hv2];exact ⟨AQ3 R _, l5.1 h1' _ Z1⟩
end
section
variable {α : Type} {ok : α → Prop} {O : α → List Own} {V : α → AV} {o : Oper}
theorem DA0 {ops : Array Oper} {rs : List Oper} {env : List (Nat × AV)} {K : H2 → Prop} {d : Nat} {f : FuncId} {args : Array Operand} {tys : Array TypeId} {ps : List Operand} {xs : List AV} {sel rest : List Own} {own' : α → List Own} (hg : o.guard = none) (ho : o.op = .call { callee := .value (.func f), args := args, argTypes := tys }) (hd : o.dst = some d) (hn : Nat.blt d n = true)
    (hc : ∀ (vs : Array Value) (w : World), (callFunc f vs).run P w = .ok (.enter f vs) w) (hps : args.toList = ps) (hp : own.Perm (sel ++ rest)) (hs : K7 P f xs sel ok O V) (he : EvL (M8 · env) ps xs) (hq : ∀ a, (O a ++ rest).Perm (own' a))
    (k : ∀ a, ok a → Q5 P G n ops rs ⟨own' a, (d, V a) :: env⟩ K) : Q5 P G n ops (o :: rs) ⟨own, env⟩ K :=
  r7 hg fun w0 R0 R a w ⟨h1, h2, h3, h4⟩ => by
    have hcore := w8 h1 hp;have hden := Af7 (o := o) (fun t _ y hy => h2 t y hy) he fun p hp => by simp [ho, Op.operands, Call.operands]; right; rw [← hps] at hp; exact Array.mem_toList_iff.1 hp
    have hrun : (execOp a.eval o).run P w = .ok (.enter f (ps.map a.eval).toArray) w := by
      have hargs : args.map a.eval = (ps.map a.eval).toArray := by rw [← hps]; cases args; simp
      simp only [execOp, ho, resolve, hargs, show a.eval (.func f) = .func (.func f) #[] #[] from rfl];simp [Deferred.ofValue, invoke, hc]
    unfold Oper.wp;rw [hrun, Oper.upon_enter];refine (hs R w _ hcore.rle hden (fun q hq => hcore.owned q (AF1 _ hq)) (m1 hcore).sep).mono fun e w' ⟨x, v, R', e0, e1, e2, e3⟩ => ?_;subst e1;have hR := AP4 hcore.rle e3.rold;refine ⟨⟨own' x, (d, V x) :: env⟩, R', k x e0, hR, w8 (Am6 hcore e3) (hq x), ?_, by rw [size_put]; exact h3, by rw [c6]; exact h4⟩;rw [hd];exact AE3 h2 hR Ab7 e2
theorem u7 {ops : Array Oper} {E : N7} {rest : List Own} (m : Nat) (h : OpE P G n own ops o E ok (fun a => rest ++ O a) V) : OpE P G n own ops o E ok (fun a => rest.take m ++ (O a ++ rest.drop m)) V := fun w0 R0 R a w h1 h2 h3 =>
  Oper.wp_mono2 (fun a' w' ⟨x, v, R', e0, e1, e2, e3, e4⟩ => ⟨x, v, R', e0, e1, w8 e2 (by
    show (rest ++ O x).Perm (rest.take m ++ (O x ++ rest.drop m))
    conv => lhs; rw [← Ab0 m rest]
    rw [f4];exact List.Perm.append_left _ AJ7), e3, e4⟩) (fun _ _ _ h => h) (h w0 R0 R a w h1 h2 h3)
theorem T2 {ops : Array Oper} {E : N7} {W' : α → List Own} {g : α → Value} {e : TypeId} {sz : Nat} {es : List (List AV)} (i : Nat) (hg : ∀ a, (W' a)[i]? = some (.arr (g a) e sz es)) (h : OpE P G n own ops o E ok W' V) : OpE P G n own ops o E (fun a => ok a ∧ (g a).oneCell' = true) W' V := fun w0 R0 R a w h1 h2 h3 =>
  Oper.wp_mono2 (fun a' w' ⟨x, v, R', e0, e1, e2, e3, e4⟩ => ⟨x, v, R', ⟨e0, Cn9 (e2.owned _ (C2 (hg x)))⟩, e1, e2, e3, e4⟩) (fun _ _ _ h => h) (h w0 R0 R a w h1 h2 h3)
theorem X3 {ops : Array Oper} {E : N7} {t : TypeId} {z : Value} (ho : o.op = .alloc t)
    (hz : ∀ w, (zeroValue t).run P w = .ok z w) (h1' : z.cells.toList.all Value.oneCell' = true) : OpE P G n own ops o E (fun _ : Nat => True) (fun b => own ++ [.box b t (z.cells.toList.map j3)]) (fun b => AV.ptr b 0) :=
  fun w0 R0 R a w h1 h3 h2 => by
    have hrun : (execOp a.eval o).run P w = .ok (.value (.pointer (some ⟨w.heap.size, 0, none⟩))) (w.alloc (.cells z.cells.toList.toArray t)) := by
      simp only [execOp, ho, Instr.alloc, newVar, newRow, hz, Array.toArray_toList, Sem.run_bind, Sem.run_pure, Result.andThen_ok, run_newObj, World.alloc_eq]
    unfold Oper.wp;rw [hrun, Oper.upon_value];exact ⟨w.heap.size, _, R, trivial, rfl, w8 (BQ4 h1 ⟨by simp, fun i v y hv hy => by
      rw [X2, hv] at hy;simp at hy; subst hy;exact ⟨AQ3 R v, l5.1 h1' v (C2 hv)⟩⟩) (AJ7 (l₁ := [_])), J8.refl _, rfl⟩
theorem o4 {ops : Array Oper} {E : N7} {t t' : TypeId} {p q : Operand} {b : Nat} {cs ys : List AV} {x : AV} (i : Nat) (ho : o.op = .store t p q) (hd : o.dst = none)
    (hp : Ev E p (AV.ptr b 0)) (hq : Ev E q x) (hx : AG5 x ys) (hi : own[i]? = some (.box b t' cs)) (hs : ∀ w, (sizeOf t).run P w = .ok ys.length w) (hl' : Nat.beq ys.length cs.length = true) : OpE P G n own ops o E (fun _ : Unit => True) (fun _ => own.set i (.box b t' ys)) (fun _ => AV.int 0) :=
  fun w0 R0 R a w h1 h3 h2 => by
    have e1 : a.eval p = .pointer (some ⟨b, 0, none⟩) := Ak1 (ops := ops) hp N5 h2;have e2 := hx R _ (Ak1 (ops := ops) hq N5 h2);have e := Nat.eq_of_beq_eq_true hl';obtain ⟨hR, vs, hb, hdc⟩ := h1.owned _ (C2 hi);have hsz : (a.eval q).cells.size = ys.length := by rw [← w6]; exact e2.1
    have hst := Au5 (P := P) (t := t) (off := 0) (u := a.eval q) hb (by rw [hsz]; exact hs w) (by rw [hsz, hdc.1]; omega) (fun u hu => by
      obtain ⟨j, hj⟩ := X9 hu;have hjl : j < ys.length := by rw [← e2.1]; exact (E9.1 hj).1
      exact (e2.2 j u _ hj (N6 hjl)).2)
    have hrun : (execOp a.eval o).run P w = .ok .skip (w.setRow b (vs.take 0 ++ (a.eval q).cells.toList ++ vs.drop (0 + (a.eval q).cells.size)).toArray) := by
      simp only [execOp, ho, e1, hst, Sem.run_bind, Sem.run_pure, Result.andThen_ok]
    unfold Oper.wp;rw [hrun, Oper.upon_skip, hd];refine ⟨(), .int .i64 0, R, trivial, rfl, AX3 h1 hi rfl rfl ⟨hR, _, setRow_heap w b _ _ t' _ hb, ?_⟩ (AF4 w b _), J8.refl _, rfl⟩;rw [← w6];have := Ai0 (off := 0) hdc e2 qz8;rw [Bq9 e] at this;exact this
theorem K3 {ops : Array Oper} {rs : List Oper} {env : List (Nat × AV)} {K : H2 → Prop} {d : Nat} {f : FuncId} {args : Array Operand} {tys : Array TypeId} {ps : List Operand} {xs : List AV} {s1 r1 : List Own} (is : List Nat) (m j : Nat) (B D : List Own) (NT : α → List Own) (hg : o.guard = none) (ho : o.op = .call { callee := .value (.func f), args := args, argTypes := tys }) (hd : o.dst = some d) (hn : Nat.blt d n = true)
    (hc : ∀ (vs : Array Value) (w : World), (callFunc f vs).run P w = .ok (.enter f vs) w) (hps : args.toList = ps) (hp : pick own is = (s1, r1)) (hB : (r1.drop m).Perm (B ++ D)) (hs : K7 P f xs (s1 ++ B) ok O V) (he : EvL (M8 · env) ps xs) (hN : ∀ a, ((O a).drop j ++ D).Perm (NT a))
    (k : ∀ a, ok a → Q5 P G n ops rs ⟨(O a).take j ++ (r1.take m ++ NT a), (d, V a) :: env⟩ K) : Q5 P G n ops (o :: rs) ⟨own, env⟩ K := by
  refine DA0 (sel := s1 ++ B) (rest := r1.take m ++ D) (own' := fun a => (O a).take j ++ (r1.take m ++ NT a)) hg ho hd hn hc hps ?_ hs he (fun a => ?_) k
  · refine (BR1 hp).trans ?_
    have h1 : r1.Perm (r1.take m ++ (B ++ D)) := by
      have := List.Perm.append_left (r1.take m) hB
      rwa [Ab0] at this
    refine (List.Perm.append_left s1 h1).trans ?_;rw [f4];refine List.Perm.append_left s1 ?_;rw [← f4, ← f4];exact List.Perm.append_right D AJ7
  · have h1 : (O a ++ (r1.take m ++ D)).Perm ((O a).take j ++ (r1.take m ++ ((O a).drop j ++ D))) := by
      conv => lhs; rw [← Ab0 j (O a)]
      rw [f4];refine List.Perm.append_left _ ?_;rw [← f4, ← f4];exact List.Perm.append_right D AJ7
    exact h1.trans (List.Perm.append_left _ (List.Perm.append_left _ (hN a)))
theorem H7 {fn : Func} {s : H2} {sel rest : List Own} (is : List Nat) (m : Nat) (B D : List Own) (x : α) (hx : ok x) (hp : pick s.own is = (sel, rest)) (hB : (rest.drop m).Perm (B ++ D)) (ho : O x = sel ++ B) (h : ∀ w0 R0 R a w, St G n w0 R0 s R a w → ∃ v, (results fn a.tmps).run P w = .ok v w ∧ (V x).den R v) : H9 P G n fn s ok O V := fun w0 R0 R a w hs => by
  obtain ⟨v, h1, h2⟩ := h w0 R0 R a w hs;refine ⟨x, v, R, hx, h1, h2, J8.refl _, ?_⟩;rw [ho];refine m1 (b := rest.take m ++ D) (w8 hs.1 ?_);refine (BR1 hp).trans ?_;have h1 : rest.Perm (rest.take m ++ (B ++ D)) := by
    have := List.Perm.append_left (rest.take m) hB
    rwa [Ab0] at this
  refine (List.Perm.append_left sel h1).trans ?_;rw [f4];refine List.Perm.append_left sel ?_;rw [← f4, ← f4];exact List.Perm.append_right D AJ7
end
end
inductive OT where
  | nil
  | pure (i : Nat) (t : OT)
  | e1 (i : Nat) (t : OT)
  | e2 (i : Nat) (t : OT) (j : Nat) (u : OT)
def OT.deep : OT → Nat → Bool
  | .nil, 0 => true
  | .pure _ t, f + 1 => t.deep f
  | .e1 _ t, f + 1 => t.deep f
  | .e2 _ t _ u, f + 1 => t.deep f && u.deep f
  | _, _ => false
def Ao6 (md : Region.Mode) (ops : Array Oper) (g m : Nat) : OT → Array Bool → Bool
  | .nil, listed => Region.seqB md ops g m listed
  | .pure i r, listed => (Region.ready md ops listed).contains i && Region.free md ops listed i && Nat.blt i m && Ao6 md ops g m r (listed.setIfInBounds i true)
  | .e1 i r, listed => decide (Region.ready md ops listed = [i]) && Nat.blt i m && Ao6 md ops g m r (listed.setIfInBounds i true)
  | .e2 i r j u, listed => decide (Region.ready md ops listed = [i, j]) && Nat.blt i m && Nat.blt j m && Ao6 md ops g m r (listed.setIfInBounds i true) && Ao6 md ops g m u (listed.setIfInBounds j true)
def treeB (md : Region.Mode) (ops : Array Oper) (m : Nat) (ord : OT) : Bool :=
  decide (m < ops.size) && ord.deep m && Region.sinkB md ops m && Region.chainB md ops m && Ao6 md ops (ops.size - m) m ord (Array.replicate ops.size false)
section
variable {P : Program} {G : Nat → Prop} {n : Nat}
def AV8 (P : Program) (G : Nat → Prop) (n : Nat) (Inv : List Own → Prop) (ops : Array Oper) (i : Nat) (env : List (Nat × AV)) (W : List Own) (K : List (Nat × AV) → List Own → Prop) : Prop :=
  ∃ o, ops[i]? = some o ∧ o.guard = none ∧ ∃ (α : Type) (ok : α → Prop) (W' : α → List Own) (V : α → AV), OpE P G n W ops o (M8 · env) ok W' V ∧ (∀ a, ok a → Inv (W' a)) ∧ ∀ a, ok a → K (BL5 o.dst (V a) env) (W' a)
def BT (P : Program) (G : Nat → Prop) (n : Nat) (Inv : List Own → Prop) (ops : Array Oper) : OT → List (Nat × AV) → List Own → (List (Nat × AV) → List Own → Prop) → Prop
  | .nil, env, W, K => K env W
  | .pure i r, env, W, K => ∃ o, ops[i]? = some o ∧ ∃ x, (∀ W', Inv W' → OpA P G n W' ops o (M8 · env) x) ∧ BT P G n Inv ops r (BL5 o.dst x env) W K
  | .e1 i r, env, W, K => AV8 P G n Inv ops i env W fun env' W' => BT P G n Inv ops r env' W' K
  | .e2 i r j u, env, W, K => (AV8 P G n Inv ops i env W fun env' W' => BT P G n Inv ops r env' W' K) ∧ AV8 P G n Inv ops j env W fun env' W' => BT P G n Inv ops u env' W' K
theorem Aw0 {Inv : List Own → Prop} {md : Region.Mode} {ops : Array Oper} {m g : Nat} {K : List (Nat × AV) → List Own → Prop} (hs : Region.sinkB md ops m = true) (hc : Region.chainB md ops m = true) (hn : m < ops.size) :
    ∀ (l : OT) (f : Nat) (listed : Array Bool) (env : List (Nat × AV)) (W : List Own), l.deep f = true → HeadInv md ops m listed → Inv W →
    Ao6 md ops g m l listed = true → BT P G n Inv ops l env W K →
    Ai7 P G n Inv md ops m (fun listed' E W => Region.seqB md ops g m listed' = true ∧ ∃ env', E = (M8 · env') ∧ K env' W) f listed (M8 · env) W
  | .nil, 0, listed, env, W, _, _, _, hB, h => ⟨hB, env, rfl, h⟩
  | .nil, _ + 1, _, _, _, hdp, _, _, _, _ => by cases hdp
  | .pure _ _, 0, _, _, _, hdp, _, _, _, _ => by cases hdp
  | .e1 _ _, 0, _, _, _, hdp, _, _, _, _ => by cases hdp
  | .e2 _ _ _ _, 0, _, _, _, hdp, _, _, _, _ => by cases hdp
  | .pure i l, f + 1, listed, env, W, hdp, inv, hW, hB, h => by
    simp only [Ao6, E8] at hB;obtain ⟨⟨⟨hr, hf⟩, hlt⟩, hB'⟩ := hB;have hkn : i < m := Nat.blt_eq.mp hlt;have hr' : i ∈ Region.ready md ops listed := by simpa using hr
    obtain ⟨o, ho, x, hx, hK⟩ := h;refine BD1 ho hs hc hn hkn (fun listed' E W hL => seqB_ready hL.1) f listed _ W inv hW (Region.free_spec ho hf) hr' hx ?_;rw [← e8];exact Aw0 hs hc hn l f _ _ W hdp (inv.set hr' hkn) hW hB' hK
  | .e1 i l, f + 1, listed, env, W, hdp, inv, hW, hB, h => by
    simp only [Ao6, E8, H1] at hB;obtain ⟨⟨hr, hlt⟩, hB'⟩ := hB;have hkn : i < m := Nat.blt_eq.mp hlt;have hr' : i ∈ Region.ready md ops listed := by rw [hr]; simp
    obtain ⟨o, ho, hg, α, ok, W', V, h1, h2, h3⟩ := h;refine ⟨fun h0 => BF8, fun j hj => ?_⟩;rw [hr] at hj;have : j = i := by simpa using hj
    subst this;refine ⟨hkn, ?_⟩;unfold qB;simp only [ho];refine .inr ⟨hg, α, ok, W', V, h1, h2, fun a ha => ?_⟩;rw [← e8];exact Aw0 hs hc hn l f _ _ (W' a) hdp (inv.set hr' hkn) (h2 a ha) hB' (h3 a ha)
  | .e2 i l k u, f + 1, listed, env, W, hdp, inv, hW, hB, h => by
    simp only [Ao6, E8, H1] at hB;obtain ⟨⟨⟨⟨hr, hlt⟩, hlt2⟩, hB'⟩, hB2⟩ := hB;simp only [OT.deep, E8] at hdp;have hkn : i < m := Nat.blt_eq.mp hlt;have hkn2 : k < m := Nat.blt_eq.mp hlt2;have hr' : i ∈ Region.ready md ops listed := by rw [hr]; simp
    have hr2 : k ∈ Region.ready md ops listed := by rw [hr]; simp
    obtain ⟨⟨o, ho, hg, α, ok, W', V, h1, h2, h3⟩, ⟨o', ho', hg', α', ok', W'', V', h1', h2', h3'⟩⟩ := h;refine ⟨fun h0 => BF8, fun j hj => ?_⟩;rw [hr] at hj;simp only [Q0, List.not_mem_nil, or_false] at hj;rcases hj with hj | hj
    · subst hj
      refine ⟨hkn, ?_⟩;unfold qB;simp only [ho];refine .inr ⟨hg, α, ok, W', V, h1, h2, fun a ha => ?_⟩;rw [← e8];exact Aw0 hs hc hn l f _ _ (W' a) hdp.1 (inv.set hr' hkn) (h2 a ha) hB' (h3 a ha)
    · subst hj
      refine ⟨hkn2, ?_⟩;unfold qB;simp only [ho'];refine .inr ⟨hg', α', ok', W'', V', h1', h2', fun a ha => ?_⟩;rw [← e8];exact Aw0 hs hc hn u f _ _ (W'' a) hdp.2 (inv.set hr2 hkn2) (h2' a ha) hB2 (h3' a ha)
theorem X5 {id : Nat} {l : List Oper} {Q : Exit → H2 → Prop} {env : List (Nat × AV)} {own : List Own} (base : List Own) (m : Nat) (ord : OT) (hm : P.follows .mixedOrders = true) (hB : treeB .any l.toArray m ord = true) (hd : BU6 n l = true) (hb : AV7 base own)
  (h : BT P G n (AV7 base) l.toArray ord env own (fun env' W => Q5 P G n l.toArray (l.drop m) ⟨W, env'⟩ (Q .normal))) : AWP P G n (.region id l.toArray true) Q ⟨own, env⟩ := fun w0 R0 R a w ⟨h1, h2, h3, h4⟩ => by
 simp only [treeB, E8, H1] at hB;obtain ⟨⟨⟨⟨hn, hdp⟩, hs⟩, hc⟩, hlex⟩ := hB;have hn' : m < l.length := by simpa using hn
 have hdl : (l.drop m).length = l.toArray.size - m := by simp
 have inv0 : HeadInv .any l.toArray m (Array.replicate l.toArray.size false) :=
  ⟨by simp, fun j oj _ hl => Bq0, fun t _ ht => getD_in BO9 (getD_replicate_false _ _)⟩
 have H := Aw0 (g := l.toArray.size - m) hs hc hn ord m _ env own hdp inv0 hb hlex h;refine wp_region_any hm ?_;have := AQ5 (w0 := w0) (R0 := R0) (R00 := R) (g := l.toArray.size - m) (Q' := fun e a' w' => ∃ s' R', Q e s' ∧ J8 R R' ∧ St G n w0 R0 s' R' a' w') (fun i o ho d e => Af5 hd i o (by simpa using ho) d e) (fun listed E W R' a' w' g1 g2 g3 g4 g5 hL => by
  obtain ⟨hL1, env', rfl, hL2⟩ := hL
  have := wpAny_of_seq (P := P) (md := .any) (Q' := fun e a' w' => ∃ s' R', Q e s' ∧ J8 R R' ∧ St G n w0 R0 s' R' a' w') (l.drop m) m listed a' w' (fun j => by simp [AJ3]) Bp9
   (AG8 (R00 := R) (K := Q .normal) (fun s' R' a w q r1 r2 => ⟨s', R', q, r1, r2⟩) _ (⟨W, env'⟩ : H2) R' a' w' g1 ⟨g2, g3, g4, g5⟩ hL2)
  rwa [hdl] at this) _ _ _ own R a _ (J8.refl _) (Ab9 h1) h2 h3 h4 H
 rw [show m + (l.toArray.size - m) = l.toArray.size by omega] at this;exact this
section
variable {ops : Array Oper} {i j : Nat} {o : Oper} {r u : OT} {env : List (Nat × AV)} {W : List Own} {base : List Own} {K : List (Nat × AV) → List Own → Prop} {d : Nat} {x : AV}
theorem bt_nil {Inv : List Own → Prop} (h : K env W) : BT P G n Inv ops .nil env W K := h
theorem K9 (ho : ops[i]? = some o) (hg : o.guard = none) (hd : o.dst = some d) (h : ∀ ext, OpW P G n (base ++ ext) o (M8 · env) x) (k : BT P G n (AV7 base) ops r ((d, x) :: env) W K) : BT P G n (AV7 base) ops (.pure i r) env W K :=
  ⟨o, ho, x, fun W' ⟨ext, e⟩ => by subst e; exact Av7 hg (h ext), by rw [hd]; exact k⟩
theorem Ac6 {c : Bool} (ho : ops[i]? = some o) (hd : o.dst = some d) (hg : F7 ops o (M8 · env) c) (h : c = true → ∀ ext, OpW P G n (base ++ ext) o (M8 · env) x) (k : BT P G n (AV7 base) ops r ((d, AV.whn c x) :: env) W K) : BT P G n (AV7 base) ops (.pure i r) env W K :=
  ⟨o, ho, _, fun W' ⟨ext, e⟩ => by subst e; exact CB3 hg fun hc => h hc ext, by rw [hd]; exact k⟩
theorem bt_e1 {Inv : List Own → Prop} (h : AV8 P G n Inv ops i env W fun env' W' => BT P G n Inv ops r env' W' K) : BT P G n Inv ops (.e1 i r) env W K := h
theorem AL7 {Inv : List Own → Prop} (h : AV8 P G n Inv ops i env W fun env' W' => BT P G n Inv ops r env' W' K) (k : AV8 P G n Inv ops j env W fun env' W' => BT P G n Inv ops u env' W' K) : BT P G n Inv ops (.e2 i r j u) env W K := ⟨h, k⟩
theorem AQ7 {Inv : List Own → Prop} {α : Type} {ok : α → Prop} {W' : α → List Own} {V : α → AV} (ho : ops[i]? = some o) (hg : o.guard = none) (hd : o.dst = none) (h : OpE P G n W ops o (M8 · env) ok W' V) (hi : ∀ a, ok a → Inv (W' a)) (k : ∀ a, ok a → K env (W' a)) : AV8 P G n Inv ops i env W K :=
  ⟨o, ho, hg, α, ok, W', V, h, hi, fun a ha => by rw [hd]; exact k a ha⟩
theorem I6 {Inv : List Own → Prop} {α : Type} {ok : α → Prop} {W' : α → List Own} {V : α → AV} (ho : ops[i]? = some o) (hg : o.guard = none) (hd : o.dst = some d) (h : OpE P G n W ops o (M8 · env) ok W' V) (hi : ∀ a, ok a → Inv (W' a)) (k : ∀ a, ok a → K ((d, V a) :: env) (W' a)) : AV8 P G n Inv ops i env W K :=
  ⟨o, ho, hg, α, ok, W', V, h, hi, fun a ha => by rw [hd]; exact k a ha⟩
end
end
section
variable {T X : Type} {cs : T → List AV} {ocs : T → X → List AV} {ow : T → X → List Own}
def J7 (ocs : T → X → List AV) (l : List T) (xs : List X) : List (List AV) := List.zipWith ocs l xs
def nin (ow : T → X → List Own) (l : List T) (xs : List X) : List Own := (List.zipWith ow l xs).flatten
theorem W8 {l : List T} {xs : List X} (h : xs.length = l.length) : (J7 ocs l xs).length = l.length := by unfold J7; rw [List.length_zipWith]; omega
theorem c8 {l : List T} {xs : List X} {i : Nat} {p : T} {x : X} (hp : l[i]? = some p) (hx : xs[i]? = some x) : (J7 ocs l xs)[i]? = some (ocs p x) := by
  unfold J7; rw [List.getElem?_zipWith, hp, hx]
theorem Cr7 {l : List T} {xs : List X} {p : T} {x : X} (h : xs.length = l.length) : J7 ocs (l ++ [p]) (xs ++ [x]) = J7 ocs l xs ++ [ocs p x] := by
  unfold J7; rw [List.zipWith_append h.symm]; rfl
theorem nin_snoc {l : List T} {xs : List X} {p : T} {x : X} (h : xs.length = l.length) : (ow p x ++ nin ow l xs).Perm (nin ow (l ++ [p]) (xs ++ [x])) := by
  unfold nin; rw [List.zipWith_append h.symm, AU1];refine List.perm_append_comm.trans ?_;simp
theorem BH0 {l : List T} {i : Nat} {p : T} (h : l[i]? = some p) : l.take (i + 1) = l.take i ++ [p] := by rw [T5, h]; rfl
theorem AX6 {l : List T} {xs : List X} {p : T} {x : X} {i : Nat} (hp : l[i]? = some p) (h : xs.length = i) : (ow p x ++ nin ow (l.take i) xs).Perm (nin ow (l.take (i + 1)) (xs ++ [x])) := by
  have hi := (E9.1 hp).1;rw [BH0 hp];exact nin_snoc (by rw [h, F4]; omega)
theorem AQ8 {l : List T} {xs : List X} {p : T} {x : X} {i : Nat} (hp : l[i]? = some p) (h : xs.length = i) : J7 ocs (l.take i) xs ++ [ocs p x] = J7 ocs (l.take (i + 1)) (xs ++ [x]) := by
  have hi := (E9.1 hp).1;rw [BH0 hp, Cr7 (by rw [h, F4]; omega)]
theorem AZ4 {p : T} {x : X} : ∀ {l : List T} {xs : List X} {i : Nat}, l[i]? = some p → xs[i]? = some x → (nin ow l xs).Perm (ow p x ++ nin ow (l.eraseIdx i) (xs.eraseIdx i))
  | [], _, _, h, _ => by simp at h
  | _ :: _, [], _, _, h => by simp at h
  | q :: l, y :: xs, 0, hp, hx => by simp at hp hx; subst hp; subst hx; exact List.Perm.refl _
  | q :: l, y :: xs, i + 1, hp, hx => by
    have ih := AZ4 (l := l) (xs := xs) (i := i) (by simpa using hp) AX1;unfold nin at *;simp only [List.zipWith_cons_cons, AJ4, BG1];refine (List.Perm.append_left (ow q y) ih).trans ?_;rw [← f4, ← f4];exact List.Perm.append_right _ AJ7
theorem AM6 {p : T} {x : X} : ∀ {l : List T} {xs : List X} {i : Nat}, l[i]? = some p → xs[i]? = some x → J7 ocs l xs = J7 ocs (l.take i) (xs.take i) ++ ocs p x :: J7 ocs (l.drop (i + 1)) (xs.drop (i + 1))
  | [], _, _, h, _ => by simp at h
  | _ :: _, [], _, _, h => by simp at h
  | q :: l, y :: xs, 0, hp, hx => by simp at hp hx; subst hp; subst hx; rfl
  | q :: l, y :: xs, i + 1, hp, hx => by
    have ih := AM6 (p := p) (x := x) (l := l) (xs := xs) (i := i) (by simpa using hp) AX1;unfold J7 at *;simp only [List.zipWith_cons_cons, Aj4, Az0, Aj3];rw [ih]
theorem Cr8 {p p' : T} {x : X} {l : List T} {xs : List X} {i : Nat} (hp : l[i]? = some p) (hx : xs[i]? = some x) : J7 ocs (l.take i) (xs.take i) ++ ocs p' x :: J7 ocs (l.drop (i + 1)) (xs.drop (i + 1)) = J7 ocs (l.set i p') xs := by
  have hi := (E9.1 hp).1;rw [AM6 (l := l.set i p') (i := i) (p := p') (x := x) (AO3 hi) hx, List.take_set_of_le (K5 _), List.drop_set_of_lt qz8]
theorem AL8 {p : T} {x : X} {l : List T} {xs : List X} {i : Nat} (hp : l[i]? = some p) (hx : xs[i]? = some x) : (J7 ocs (l.take i) (xs.take i)).length = i := by
  have h1 := (E9.1 hp).1;have h2 := (E9.1 hx).1;unfold J7; rw [List.length_zipWith, F4, F4]; omega
theorem BR2 {p : T} {x : X} {l : List T} {xs : List X} {i : Nat} {r : List AV} (hp : l[i]? = some p) (hx : xs[i]? = some x) (hl : xs.length = l.length) : (J7 ocs (l.take i) (xs.take i) ++ r :: J7 ocs (l.drop (i + 1)) (xs.drop (i + 1))).length = l.length := by
  have h1 := (E9.1 hp).1;rw [H3, AL8 hp hx, H8];unfold J7; rw [List.length_zipWith, p7, p7]; omega
theorem Bf7 {p : T} {x : X} {l : List T} {xs : List X} {i : Nat} (hp : l[i]? = some p) (hx : xs[i]? = some x) : ∀ o ∈ ow p x, o ∈ nin ow l xs := fun o ho => (AZ4 (ow := ow) (i := i) hp hx).mem_iff.2 (AF1 _ ho)
theorem AX7 {own : List Own} {v : Value} {t : TypeId} {sz : Nat} {l : List T} {xs : List X} (hlc : ∀ p x, (∀ o ∈ ow p x, o ∈ own) → AC1 own (ocs p x) (cs p)) (hlen : xs.length = l.length) (i : Nat) (hi : own[i]? = some (.arr v t sz (J7 ocs l xs))) (hm : ∀ o ∈ nin ow l xs, o ∈ own) : AL0 own (AV.is v) (AV.list sz (l.map cs)) :=
  K0 (C2 hi) ⟨by rw [W8 hlen, A7], fun j a b ha hb => by
    rw [X2] at hb
    cases hp : l[j]? with
    | none => rw [hp] at hb; cases hb
    | some p =>
      rw [hp] at hb;have hj := (E9.1 hp).1;obtain ⟨x, hx⟩ : ∃ x, xs[j]? = some x := ⟨_, N6 qz8⟩;rw [c8 hp hx] at ha;injection ha with ha; injection hb with hb; subst ha; subst hb
      exact hlc p x fun o ho => hm o (Bf7 hp hx o ho)⟩
end
section
variable {T : Type}
def Cf9 (mk : T → Int → T) (mn : T → Int → Int) : List T → Int → List T
  | [], _ => []
  | p :: l, k => mk p k :: Cf9 mk mn l (mn p k)
variable {mk : T → Int → T} {mn : T → Int → Int}
theorem Br5 : ∀ (l : List T) (k : Int), (Cf9 mk mn l k).length = l.length
  | [], _ => rfl
  | p :: l, k => by unfold Cf9; simp [Br5 l]
end
section
variable {P : Program} {G : Nat → Prop} {n : Nat} {own : List Own} {o : Oper}
theorem BH1 {rest : List Own} : ∀ b, (fun _ : Nat => False) b → b ∈ rest.filterMap Own.blk := fun _ h => h.elim
theorem U2 {rest : List Own} : ∀ b, AR8 [] b → b ∈ rest.filterMap Own.blk := fun _ ⟨_, h, _⟩ => by simp at h
theorem s7 {q q' : Own} {ow rest : List Own} (i : Nat) (h : rest[i]? = some q') (hb : Own.blk q = Own.blk q') (k : ∀ b, AR8 ow b → b ∈ rest.filterMap Own.blk) : ∀ b, AR8 (q :: ow) b → b ∈ rest.filterMap Own.blk := fun b ⟨x, hx, hxb⟩ => by
  rcases Q0.1 hx with rfl | hx
  · exact List.mem_filterMap.2 ⟨q', C2 h, hb ▸ hxb⟩
  · exact k b ⟨x, hx, hxb⟩
theorem BR3 {sel rest : List Own} {w0 : World} {R0 R : G9} {w : World} (h : T6 G w0 R0 (sel ++ rest) R w) (hG : ∀ b, G b → b ∈ rest.filterMap Own.blk) : T6 G w0 R0 rest (AB1 sel w R) w := by
  have hl := m1 h;refine ⟨h.os, h.tape, h.output, h.size, h.block, Bf4 hl, fun b hb => ?_, fun q hq => ?_, fun q hq => h.fresh q (r4 _ hq), (BQ8 h).sep⟩
  · unfold AB1
    cases hob : AM1 sel b with
    | true =>
      obtain ⟨x, hx, hxb⟩ := Ac2 hob;rcases h.fresh x (AF1 _ hx) b hxb with h1 | h1
      · omega
      · obtain ⟨y, hy, hyb⟩ := List.mem_filterMap.1 (hG b h1)
        exact absurd hyb (Av9 h.sep hx hy hxb)
    | false => exact h.rold b hb
  · have hk := h.owned q (r4 _ hq)
    refine Own.ok_keep hk (AK0 hl) fun b hb => ⟨rfl, ?_⟩;unfold AB1
    cases hob : AM1 sel b with
    | true =>
      obtain ⟨x, hx, hxb⟩ := Ac2 hob;exact absurd hb (Av9 h.sep hx hq hxb)
    | false => exact (Own.ok_blk hk hb).1
theorem AK1 {env : List (Nat × AV)} {sel rest : List Own} {x y : AV} (is : List Nat) (t : Nat) (hp : pick own is = (sel, rest)) (ht : M8 t env = some x) (hl : AL0 sel x y) (hG : ∀ b, G b → b ∈ rest.filterMap Own.blk) : Le G n ⟨own, env⟩ ⟨rest, (t, y) :: env⟩ := fun w0 R0 R a w ⟨h1, h2, h3⟩ => by
  have hc := AW6 h1 hp;refine ⟨AB1 sel w R, AK0 (m1 hc), BR3 hc hG, fun k z hz => ?_, h3⟩;simp only [M8] at hz;by_cases hk : t = k
  · subst hk
    simp [Nat.beq_refl] at hz;rw [← hz];exact hl G w0 R0 R w _ (m1 hc) (h2 t x ht)
  · rw [AX2 hk, cond_false] at hz
    exact z.mono (AK0 (m1 hc)) (h2 k z hz)
theorem Ac7 {ops : Array Oper} {rest : List Oper} {env : List (Nat × AV)} {K : H2 → Prop} {d : Nat} {c : Bool} (hd : o.dst = some d) (hn : Nat.blt d n = true) (hg : F7 ops o (M8 · env) c)
    (ht : c = true → Q5 P G n ops ({ o with guard := none } :: rest) ⟨own, env⟩ K) (hf : c = false → Q5 P G n ops rest ⟨own, (d, AV.is undef) :: env⟩ K) : Q5 P G n ops (o :: rest) ⟨own, env⟩ K := fun w0 R0 R a w hs => by
  have hgc := hg R a fun t _ y hy => hs.2.1 t y hy
  cases c with
  | true =>
    refine ⟨fun _ => ?_, fun hw => by rw [hgc] at hw; exact Bool.noConfusion hw⟩;exact (ht rfl w0 R0 R a w hs).1 rfl
  | false =>
    refine ⟨fun hw => by rw [hgc] at hw; exact Bool.noConfusion hw, fun _ => ⟨_, R, hf rfl, J8.refl _, ?_⟩⟩;obtain ⟨h1, h2, h3, h4⟩ := hs;refine ⟨h1, ?_, by rw [size_put]; exact h3, by rw [c6]; exact h4⟩;have := AI4 (d := o.dst) (x := AV.is undef) (v := undef) h2 (J8.refl R) (fun q e => by rw [h3]; rw [hd] at e; injection e with e; subst e; exact Nat.blt_eq.mp hn) rfl;rw [hd] at this ⊢;exact this
theorem Bf8 {E : N7} {p : Operand} {b : Bool} {x : AV} (h : b = false) : CF7 E p b x := fun hb => by rw [h] at hb; cases hb
def T7 (x y : Int) : Int := IntKind.u64.wrap (((BitVec.ofInt IntKind.u64.bits x &&& BitVec.ofInt IntKind.u64.bits y).toNat : Nat) : Int)
theorem w_band {E : N7} {t ty : TypeId} {p q : Operand} {x y : Int} (ho : o.op = .binOp .and t p q ty) (hp : Ev E p (AV.ik .u64 x)) (hq : Ev E q (AV.ik .u64 y)) : OpW P G n own o E (AV.ik .u64 (T7 x y)) := O0 fun R a w _ he => by
  have h1 : a.eval p = .int .u64 x := F9 hp N5 he;have h2 : a.eval q = .int .u64 y := F9 hq N5 he;exact ⟨.int .u64 (T7 x y), by simp only [execOp, ho, h1, h2]; simp [go_sem]; rfl, rfl⟩
theorem CN5 {Inv : List Own → Prop} {md : Region.Mode} {ops : Array Oper} {m i : Nat} {oi : Oper} {x : AV} {L : Array Bool → N7 → List Own → Prop} (hi : ops[i]? = some oi)
    (hm0 : m = ops.size) (hin : i < m)
    (hdone : ∀ listed E W, L listed E W → ∀ j ∈ Region.ready md ops listed, m ≤ j) :
    ∀ (f : Nat) (listed : Array Bool) (E : N7) (W : List Own), HeadInv md ops m listed → Inv W →
      (∀ j oj, ops[j]? = some oj → j ≠ i → listed.getD j true = false → (∀ e ∈ oj.after, Region.binds md e = true → e.on ≠ i) → oi.apart ops oj = true) →
      i ∈ Region.ready md ops listed → (∀ W, Inv W → OpA P G n W ops oi E x) →
      Ai7 P G n Inv md ops m L f (listed.setIfInBounds i true) (y8 oi.dst x E) W → Ai7 P G n Inv md ops m L (f + 1) listed E W := by
  have put : ∀ {K : N7 → List Own → Prop} {E : N7} {W : List Own}, Inv W → (∀ W, Inv W → OpA P G n W ops oi E x) → K (y8 oi.dst x E) W → qB P G n Inv ops i K E W := fun hW hy hK => by
    unfold qB;simp only [hi];exact .inl ⟨x, hy _ hW, hK⟩
  intro f;induction f with
  | zero =>
    intro listed E W inv hW _ hr hy H;have hun := (mem_ready.1 hr).1;refine ⟨fun h => BF6, fun j hj => ?_⟩;have hjn : j < m := by
      rcases Nat.lt_or_ge j m with h | h
      · exact h
      · obtain ⟨_, oj, hoj, _⟩ := mem_ready.1 hj
        have := (AR6.1 hoj).1;omega
    refine ⟨hjn, ?_⟩;by_cases hji : j = i
    · subst hji; exact put hW hy H
    · have := hdone _ _ _ H j (ready_mono hj hji)
      omega
  | succ f ih =>
    intro listed E W inv hW hfree hr hy H;have hun := (mem_ready.1 hr).1;refine ⟨fun h => BF6, fun j hj => ?_⟩;have hjn : j < m := by
      rcases Nat.lt_or_ge j m with h | h
      · exact h
      · obtain ⟨_, oj, hoj, _⟩ := mem_ready.1 hj
        have := (AR6.1 hoj).1;omega
    refine ⟨hjn, ?_⟩;by_cases hji : j = i
    · subst hji; exact put hW hy H
    · have h1 := (H.2 j (ready_mono hj hji)).2
      obtain ⟨hjun, oj, hoj, hall⟩ := mem_ready.1 hj;have hnot : ∀ e ∈ oj.after, Region.binds md e = true → e.on ≠ i := fun e he hb heq => by
        have h1 := hall e he hb;rw [heq, getD_both hun] at h1
        cases h1
      have h2 := qB_put hoj (hfree j oj hoj hji hjun hnot) hW hy h1
      have hfree' : ∀ k ok, ops[k]? = some ok → k ≠ i → (listed.setIfInBounds j true).getD k true = false →
          (∀ e ∈ ok.after, Region.binds md e = true → e.on ≠ i) → oi.apart ops ok = true := fun k ok hk hki hun hno => by
        refine hfree k ok hk hki ?_ hno;by_cases hjk : j = k
        · subst hjk; exact hjun
        · rw [getD_set_ne true hjk] at hun; exact hun
      refine Co0 hW (fun E' W' hW' h3 => ih (listed.setIfInBounds j true) E' W' (inv.set hj hjn) hW' hfree' (ready_mono hr (Ne.symm hji)) h3.1 ?_) h2;rw [Array.setIfInBounds_comm _ _ hji];exact h3.2
def treeZ (md : Region.Mode) (ops : Array Oper) (m : Nat) (ord : OT) : Bool :=
  decide (m = ops.size) && ord.deep m && Ao6 md ops (ops.size - m) m ord (Array.replicate ops.size false)
theorem Am8 {Inv : List Own → Prop} {md : Region.Mode} {ops : Array Oper} {m g : Nat} {K : List (Nat × AV) → List Own → Prop} (hm0 : m = ops.size) :
    ∀ (l : OT) (f : Nat) (listed : Array Bool) (env : List (Nat × AV)) (W : List Own), l.deep f = true → HeadInv md ops m listed → Inv W →
    Ao6 md ops g m l listed = true → BT P G n Inv ops l env W K →
    Ai7 P G n Inv md ops m (fun listed' E W => Region.seqB md ops g m listed' = true ∧ ∃ env', E = (M8 · env') ∧ K env' W) f listed (M8 · env) W
  | .nil, 0, listed, env, W, _, _, _, hB, h => ⟨hB, env, rfl, h⟩
  | .nil, _ + 1, _, _, _, hdp, _, _, _, _ => by cases hdp
  | .pure _ _, 0, _, _, _, hdp, _, _, _, _ => by cases hdp
  | .e1 _ _, 0, _, _, _, hdp, _, _, _, _ => by cases hdp
  | .e2 _ _ _ _, 0, _, _, _, hdp, _, _, _, _ => by cases hdp
  | .pure i l, f + 1, listed, env, W, hdp, inv, hW, hB, h => by
    simp only [Ao6, E8] at hB;obtain ⟨⟨⟨hr, hf⟩, hlt⟩, hB'⟩ := hB;have hkn : i < m := Nat.blt_eq.mp hlt;have hr' : i ∈ Region.ready md ops listed := by simpa using hr
    obtain ⟨o, ho, x, hx, hK⟩ := h;refine CN5 ho hm0 hkn (fun listed' E W hL => seqB_ready hL.1) f listed _ W inv hW (Region.free_spec ho hf) hr' hx ?_;rw [← e8];exact Am8 hm0 l f _ _ W hdp (inv.set hr' hkn) hW hB' hK
  | .e1 i l, f + 1, listed, env, W, hdp, inv, hW, hB, h => by
    simp only [Ao6, E8, H1] at hB;obtain ⟨⟨hr, hlt⟩, hB'⟩ := hB;have hkn : i < m := Nat.blt_eq.mp hlt;have hr' : i ∈ Region.ready md ops listed := by rw [hr]; simp
    obtain ⟨o, ho, hg, α, ok, W', V, h1, h2, h3⟩ := h;refine ⟨fun h0 => BF8, fun j hj => ?_⟩;rw [hr] at hj;have : j = i := by simpa using hj
    subst this;refine ⟨hkn, ?_⟩;unfold qB;simp only [ho];refine .inr ⟨hg, α, ok, W', V, h1, h2, fun a ha => ?_⟩;rw [← e8];exact Am8 hm0 l f _ _ (W' a) hdp (inv.set hr' hkn) (h2 a ha) hB' (h3 a ha)
  | .e2 i l k u, f + 1, listed, env, W, hdp, inv, hW, hB, h => by
    simp only [Ao6, E8, H1] at hB;obtain ⟨⟨⟨⟨hr, hlt⟩, hlt2⟩, hB'⟩, hB2⟩ := hB;simp only [OT.deep, E8] at hdp;have hkn : i < m := Nat.blt_eq.mp hlt;have hkn2 : k < m := Nat.blt_eq.mp hlt2;have hr' : i ∈ Region.ready md ops listed := by rw [hr]; simp
    have hr2 : k ∈ Region.ready md ops listed := by rw [hr]; simp
    obtain ⟨⟨o, ho, hg, α, ok, W', V, h1, h2, h3⟩, ⟨o', ho', hg', α', ok', W'', V', h1', h2', h3'⟩⟩ := h;refine ⟨fun h0 => BF8, fun j hj => ?_⟩;rw [hr] at hj;simp only [Q0, List.not_mem_nil, or_false] at hj;rcases hj with hj | hj
    · subst hj
      refine ⟨hkn, ?_⟩;unfold qB;simp only [ho];refine .inr ⟨hg, α, ok, W', V, h1, h2, fun a ha => ?_⟩;rw [← e8];exact Am8 hm0 l f _ _ (W' a) hdp.1 (inv.set hr' hkn) (h2 a ha) hB' (h3 a ha)
    · subst hj
      refine ⟨hkn2, ?_⟩;unfold qB;simp only [ho'];refine .inr ⟨hg', α', ok', W'', V', h1', h2', fun a ha => ?_⟩;rw [← e8];exact Am8 hm0 u f _ _ (W'' a) hdp.2 (inv.set hr2 hkn2) (h2' a ha) hB2 (h3' a ha)
theorem Bm0 {id : Nat} {l : List Oper} {Q : Exit → H2 → Prop} {env : List (Nat × AV)} {own : List Own} (base : List Own) (m : Nat) (ord : OT) (hm : P.follows .mixedOrders = true) (hB : treeZ .any l.toArray m ord = true) (hd : BU6 n l = true) (hb : AV7 base own)
  (h : BT P G n (AV7 base) l.toArray ord env own (fun env' W => Q5 P G n l.toArray (l.drop m) ⟨W, env'⟩ (Q .normal))) : AWP P G n (.region id l.toArray true) Q ⟨own, env⟩ := fun w0 R0 R a w ⟨h1, h2, h3, h4⟩ => by
 simp only [treeZ, E8, H1] at hB;obtain ⟨⟨hm0, hdp⟩, hlex⟩ := hB;have hn' : m = l.length := by simpa using hm0
 have hdl : (l.drop m).length = l.toArray.size - m := by simp
 have inv0 : HeadInv .any l.toArray m (Array.replicate l.toArray.size false) :=
  ⟨by simp, fun j oj _ hl => Bq0, fun t _ ht => getD_in BO9 (getD_replicate_false _ _)⟩
 have H := Am8 (g := l.toArray.size - m) hm0 ord m _ env own hdp inv0 hb hlex h;refine wp_region_any hm ?_;have := AQ5 (w0 := w0) (R0 := R0) (R00 := R) (g := l.toArray.size - m) (Q' := fun e a' w' => ∃ s' R', Q e s' ∧ J8 R R' ∧ St G n w0 R0 s' R' a' w') (fun i o ho d e => Af5 hd i o (by simpa using ho) d e) (fun listed E W R' a' w' g1 g2 g3 g4 g5 hL => by
  obtain ⟨hL1, env', rfl, hL2⟩ := hL
  have := wpAny_of_seq (P := P) (md := .any) (Q' := fun e a' w' => ∃ s' R', Q e s' ∧ J8 R R' ∧ St G n w0 R0 s' R' a' w') (l.drop m) m listed a' w' (fun j => by simp [AJ3]) Bp9
   (AG8 (R00 := R) (K := Q .normal) (fun s' R' a w q r1 r2 => ⟨s', R', q, r1, r2⟩) _ (⟨W, env'⟩ : H2) R' a' w' g1 ⟨g2, g3, g4, g5⟩ hL2)
  rwa [hdl] at this) _ _ _ own R a _ (J8.refl _) (Ab9 h1) h2 h3 h4 H
 rw [show m + (l.toArray.size - m) = l.toArray.size by omega] at this;exact this
end
end Go.AV
namespace Go.AV
open Go
inductive OT3 where
  | nil
  | pure (i : Nat) (t : OT3)
  | e1 (i : Nat) (t : OT3)
  | e2 (i : Nat) (t : OT3) (j : Nat) (u : OT3)
  | e3 (i : Nat) (t : OT3) (j : Nat) (u : OT3) (k : Nat) (v : OT3)
def OT3.deep : OT3 → Nat → Bool
  | .nil, 0 => true
  | .pure _ t, f + 1 => t.deep f
  | .e1 _ t, f + 1 => t.deep f
  | .e2 _ t _ u, f + 1 => t.deep f && u.deep f
  | .e3 _ t _ u _ v, f + 1 => (t.deep f && u.deep f) && v.deep f
  | _, _ => false
def Ah3 (md : Region.Mode) (ops : Array Oper) (g m : Nat) : OT3 → Array Bool → Bool
  | .nil, listed => Region.seqB md ops g m listed
  | .pure i r, listed => (Region.ready md ops listed).contains i && Region.free md ops listed i && Nat.blt i m && Ah3 md ops g m r (listed.setIfInBounds i true)
  | .e1 i r, listed => decide (Region.ready md ops listed = [i]) && Nat.blt i m && Ah3 md ops g m r (listed.setIfInBounds i true)
  | .e2 i r j u, listed => decide (Region.ready md ops listed = [i, j]) && Nat.blt i m && Nat.blt j m && Ah3 md ops g m r (listed.setIfInBounds i true) && Ah3 md ops g m u (listed.setIfInBounds j true)
  | .e3 i r j u k v, listed => decide (Region.ready md ops listed = [i, j, k]) && Nat.blt i m && Nat.blt j m && Nat.blt k m && Ah3 md ops g m r (listed.setIfInBounds i true) && Ah3 md ops g m u (listed.setIfInBounds j true) && Ah3 md ops g m v (listed.setIfInBounds k true)
def treeB3 (md : Region.Mode) (ops : Array Oper) (m : Nat) (ord : OT3) : Bool :=
  decide (m < ops.size) && ord.deep m && Region.sinkB md ops m && Region.chainB md ops m && Ah3 md ops (ops.size - m) m ord (Array.replicate ops.size false)
section
variable {P : Program} {G : Nat → Prop} {n : Nat}
def BT3 (P : Program) (G : Nat → Prop) (n : Nat) (Inv : List Own → Prop) (ops : Array Oper) : OT3 → List (Nat × AV) → List Own → (List (Nat × AV) → List Own → Prop) → Prop
  | .nil, env, W, K => K env W
  | .pure i r, env, W, K => ∃ o, ops[i]? = some o ∧ ∃ x, (∀ W', Inv W' → OpA P G n W' ops o (M8 · env) x) ∧ BT3 P G n Inv ops r (BL5 o.dst x env) W K
  | .e1 i r, env, W, K => AV8 P G n Inv ops i env W fun env' W' => BT3 P G n Inv ops r env' W' K
  | .e2 i r j u, env, W, K => (AV8 P G n Inv ops i env W fun env' W' => BT3 P G n Inv ops r env' W' K) ∧ AV8 P G n Inv ops j env W fun env' W' => BT3 P G n Inv ops u env' W' K
  | .e3 i r j u k v, env, W, K => (AV8 P G n Inv ops i env W fun env' W' => BT3 P G n Inv ops r env' W' K) ∧ (AV8 P G n Inv ops j env W fun env' W' => BT3 P G n Inv ops u env' W' K) ∧ AV8 P G n Inv ops k env W fun env' W' => BT3 P G n Inv ops v env' W' K
theorem AQ9 {Inv : List Own → Prop} {md : Region.Mode} {ops : Array Oper} {m g : Nat} {K : List (Nat × AV) → List Own → Prop} (hs : Region.sinkB md ops m = true) (hc : Region.chainB md ops m = true) (hn : m < ops.size) :
    ∀ (l : OT3) (f : Nat) (listed : Array Bool) (env : List (Nat × AV)) (W : List Own), l.deep f = true → HeadInv md ops m listed → Inv W →
    Ah3 md ops g m l listed = true → BT3 P G n Inv ops l env W K →
    Ai7 P G n Inv md ops m (fun listed' E W => Region.seqB md ops g m listed' = true ∧ ∃ env', E = (M8 · env') ∧ K env' W) f listed (M8 · env) W
  | .nil, 0, listed, env, W, _, _, _, hB, h => ⟨hB, env, rfl, h⟩
  | .nil, _ + 1, _, _, _, hdp, _, _, _, _ => by cases hdp
  | .pure _ _, 0, _, _, _, hdp, _, _, _, _ => by cases hdp
  | .e1 _ _, 0, _, _, _, hdp, _, _, _, _ => by cases hdp
  | .e2 _ _ _ _, 0, _, _, _, hdp, _, _, _, _ => by cases hdp
  | .e3 _ _ _ _ _ _, 0, _, _, _, hdp, _, _, _, _ => by cases hdp
  | .pure i l, f + 1, listed, env, W, hdp, inv, hW, hB, h => by
    simp only [Ah3, E8] at hB;obtain ⟨⟨⟨hr, hf⟩, hlt⟩, hB'⟩ := hB;have hkn : i < m := Nat.blt_eq.mp hlt;have hr' : i ∈ Region.ready md ops listed := by simpa using hr
    obtain ⟨o, ho, x, hx, hK⟩ := h;refine BD1 ho hs hc hn hkn (fun listed' E W hL => seqB_ready hL.1) f listed _ W inv hW (Region.free_spec ho hf) hr' hx ?_;rw [← e8];exact AQ9 hs hc hn l f _ _ W hdp (inv.set hr' hkn) hW hB' hK
  | .e1 i l, f + 1, listed, env, W, hdp, inv, hW, hB, h => by
    simp only [Ah3, E8, H1] at hB;obtain ⟨⟨hr, hlt⟩, hB'⟩ := hB;have hkn : i < m := Nat.blt_eq.mp hlt;have hr' : i ∈ Region.ready md ops listed := by rw [hr]; simp
    obtain ⟨o, ho, hg, α, ok, W', V, h1, h2, h3⟩ := h;refine ⟨fun h0 => BF8, fun j hj => ?_⟩;rw [hr] at hj;have : j = i := by simpa using hj
    subst this;refine ⟨hkn, ?_⟩;unfold qB;simp only [ho];refine .inr ⟨hg, α, ok, W', V, h1, h2, fun a ha => ?_⟩;rw [← e8];exact AQ9 hs hc hn l f _ _ (W' a) hdp (inv.set hr' hkn) (h2 a ha) hB' (h3 a ha)
  | .e2 i l k u, f + 1, listed, env, W, hdp, inv, hW, hB, h => by
    simp only [Ah3, E8, H1] at hB;obtain ⟨⟨⟨⟨hr, hlt⟩, hlt2⟩, hB'⟩, hB2⟩ := hB;simp only [OT3.deep, E8] at hdp;have hkn : i < m := Nat.blt_eq.mp hlt;have hkn2 : k < m := Nat.blt_eq.mp hlt2;have hr' : i ∈ Region.ready md ops listed := by rw [hr]; simp
    have hr2 : k ∈ Region.ready md ops listed := by rw [hr]; simp
    obtain ⟨⟨o, ho, hg, α, ok, W', V, h1, h2, h3⟩, ⟨o', ho', hg', α', ok', W'', V', h1', h2', h3'⟩⟩ := h;refine ⟨fun h0 => BF8, fun j hj => ?_⟩;rw [hr] at hj;simp only [Q0, List.not_mem_nil, or_false] at hj;rcases hj with hj | hj
    · subst hj
      refine ⟨hkn, ?_⟩;unfold qB;simp only [ho];refine .inr ⟨hg, α, ok, W', V, h1, h2, fun a ha => ?_⟩;rw [← e8];exact AQ9 hs hc hn l f _ _ (W' a) hdp.1 (inv.set hr' hkn) (h2 a ha) hB' (h3 a ha)
    · subst hj
      refine ⟨hkn2, ?_⟩;unfold qB;simp only [ho'];refine .inr ⟨hg', α', ok', W'', V', h1', h2', fun a ha => ?_⟩;rw [← e8];exact AQ9 hs hc hn u f _ _ (W'' a) hdp.2 (inv.set hr2 hkn2) (h2' a ha) hB2 (h3' a ha)
  | .e3 i l k u q v, f + 1, listed, env, W, hdp, inv, hW, hB, h => by
    simp only [Ah3, E8, H1] at hB;obtain ⟨⟨⟨⟨⟨⟨hr, hlt⟩, hlt2⟩, hlt3⟩, hB'⟩, hB2⟩, hB3⟩ := hB;simp only [OT3.deep, E8] at hdp;have hkn : i < m := Nat.blt_eq.mp hlt;have hkn2 : k < m := Nat.blt_eq.mp hlt2;have hkn3 : q < m := Nat.blt_eq.mp hlt3;have hr' : i ∈ Region.ready md ops listed := by rw [hr]; simp
    have hr2 : k ∈ Region.ready md ops listed := by rw [hr]; simp
    have hr3 : q ∈ Region.ready md ops listed := by rw [hr]; simp
    obtain ⟨⟨o, ho, hg, α, ok, W', V, h1, h2, h3⟩, ⟨o', ho', hg', α', ok', W'', V', h1', h2', h3'⟩, ⟨o3, ho3, hg3, α3, ok3, W3, V3, h13, h23, h33⟩⟩ := h;refine ⟨fun h0 => BF8, fun j hj => ?_⟩;rw [hr] at hj;simp only [Q0, List.not_mem_nil, or_false] at hj;rcases hj with hj | hj | hj
    · subst hj
      refine ⟨hkn, ?_⟩;unfold qB;simp only [ho];refine .inr ⟨hg, α, ok, W', V, h1, h2, fun a ha => ?_⟩;rw [← e8];exact AQ9 hs hc hn l f _ _ (W' a) hdp.1.1 (inv.set hr' hkn) (h2 a ha) hB' (h3 a ha)
    · subst hj
      refine ⟨hkn2, ?_⟩;unfold qB;simp only [ho'];refine .inr ⟨hg', α', ok', W'', V', h1', h2', fun a ha => ?_⟩;rw [← e8];exact AQ9 hs hc hn u f _ _ (W'' a) hdp.1.2 (inv.set hr2 hkn2) (h2' a ha) hB2 (h3' a ha)
    · subst hj
      refine ⟨hkn3, ?_⟩;unfold qB;simp only [ho3];refine .inr ⟨hg3, α3, ok3, W3, V3, h13, h23, fun a ha => ?_⟩;rw [← e8];exact AQ9 hs hc hn v f _ _ (W3 a) hdp.2 (inv.set hr3 hkn3) (h23 a ha) hB3 (h33 a ha)
theorem Bm1 {id : Nat} {l : List Oper} {Q : Exit → H2 → Prop} {env : List (Nat × AV)} {own : List Own} (base : List Own) (m : Nat) (ord : OT3) (hm : P.follows .mixedOrders = true) (hB : treeB3 .any l.toArray m ord = true) (hd : BU6 n l = true) (hb : AV7 base own)
  (h : BT3 P G n (AV7 base) l.toArray ord env own (fun env' W => Q5 P G n l.toArray (l.drop m) ⟨W, env'⟩ (Q .normal))) : AWP P G n (.region id l.toArray true) Q ⟨own, env⟩ := fun w0 R0 R a w ⟨h1, h2, h3, h4⟩ => by
 simp only [treeB3, E8, H1] at hB;obtain ⟨⟨⟨⟨hn, hdp⟩, hs⟩, hc⟩, hlex⟩ := hB;have hn' : m < l.length := by simpa using hn
 have hdl : (l.drop m).length = l.toArray.size - m := by simp
 have inv0 : HeadInv .any l.toArray m (Array.replicate l.toArray.size false) :=
  ⟨by simp, fun j oj _ hl => Bq0, fun t _ ht => getD_in BO9 (getD_replicate_false _ _)⟩
 have H := AQ9 (g := l.toArray.size - m) hs hc hn ord m _ env own hdp inv0 hb hlex h;refine wp_region_any hm ?_;have := AQ5 (w0 := w0) (R0 := R0) (R00 := R) (g := l.toArray.size - m) (Q' := fun e a' w' => ∃ s' R', Q e s' ∧ J8 R R' ∧ St G n w0 R0 s' R' a' w') (fun i o ho d e => Af5 hd i o (by simpa using ho) d e) (fun listed E W R' a' w' g1 g2 g3 g4 g5 hL => by
  obtain ⟨hL1, env', rfl, hL2⟩ := hL
  have := wpAny_of_seq (P := P) (md := .any) (Q' := fun e a' w' => ∃ s' R', Q e s' ∧ J8 R R' ∧ St G n w0 R0 s' R' a' w') (l.drop m) m listed a' w' (fun j => by simp [AJ3]) Bp9
   (AG8 (R00 := R) (K := Q .normal) (fun s' R' a w q r1 r2 => ⟨s', R', q, r1, r2⟩) _ (⟨W, env'⟩ : H2) R' a' w' g1 ⟨g2, g3, g4, g5⟩ hL2)
  rwa [hdl] at this) _ _ _ own R a _ (J8.refl _) (Ab9 h1) h2 h3 h4 H
 rw [show m + (l.toArray.size - m) = l.toArray.size by omega] at this;exact this
section
variable {ops : Array Oper} {i j : Nat} {o : Oper} {r u : OT3} {env : List (Nat × AV)} {W : List Own} {base : List Own} {K : List (Nat × AV) → List Own → Prop} {d : Nat} {x : AV}
theorem bt3_nil {Inv : List Own → Prop} (h : K env W) : BT3 P G n Inv ops .nil env W K := h
theorem AR0 (ho : ops[i]? = some o) (hg : o.guard = none) (hd : o.dst = some d) (h : ∀ ext, OpW P G n (base ++ ext) o (M8 · env) x) (k : BT3 P G n (AV7 base) ops r ((d, x) :: env) W K) : BT3 P G n (AV7 base) ops (.pure i r) env W K :=
  ⟨o, ho, x, fun W' ⟨ext, e⟩ => by subst e; exact Av7 hg (h ext), by rw [hd]; exact k⟩
theorem bt3_e1 {Inv : List Own → Prop} (h : AV8 P G n Inv ops i env W fun env' W' => BT3 P G n Inv ops r env' W' K) : BT3 P G n Inv ops (.e1 i r) env W K := h
theorem bt3_e3 {Inv : List Own → Prop} {q : Nat} {v : OT3} (h : AV8 P G n Inv ops i env W fun env' W' => BT3 P G n Inv ops r env' W' K) (k : AV8 P G n Inv ops j env W fun env' W' => BT3 P G n Inv ops u env' W' K) (k3 : AV8 P G n Inv ops q env W fun env' W' => BT3 P G n Inv ops v env' W' K) : BT3 P G n Inv ops (.e3 i r j u q v) env W K := ⟨h, k, k3⟩
theorem CW1 {Inv : List Own → Prop} (h : AV8 P G n Inv ops i env W fun env' W' => BT3 P G n Inv ops r env' W' K) (k : AV8 P G n Inv ops j env W fun env' W' => BT3 P G n Inv ops u env' W' K) : BT3 P G n Inv ops (.e2 i r j u) env W K := ⟨h, k⟩
end
end
section
variable {P : Program} {G : Nat → Prop} {n : Nat}
end
section
variable {P : Program} {G : Nat → Prop} {n : Nat} {own : List Own} {o : Oper}
theorem Z3 {E : N7} {e : TypeId} {p : Operand} {k sz : Nat} {v : Value} {es : List (List AV)} {ys : List AV} (i : Nat) (ho : o.op = .nilCheck p) (hp : Ev E p (AV.is (u9 v (k * sz)))) (hi : own[i]? = some (.arr v e sz es)) (hy : es[k]? = some ys) (h0 : Nat.blt 0 sz = true) : OpW P G n own o E (AV.is (u9 v (k * sz))) := AF2 fun w0 R0 R a w hc he => by
  have e1 : a.eval p = _ := F9 hp N5 he;have hok := hc.owned _ (C2 hi);have hu := hok.2.1;have hyl : ys.length = sz := hu ys (C2 hy);have hb1 := Nat.blt_eq.mp h0;obtain ⟨g, u0, h1, _⟩ := Ac3 hok (AC5 hu hy (N6 (show 0 < ys.length by omega)));rw [Nat.add_zero] at h1;rw [h1] at e1;refine ⟨_, ?_, show u9 v (k * sz) = _ from rfl⟩;rw [h1];simp only [execOp, ho, e1, Sem.run_pure]
end
end Go.AV
namespace Go.AV
def AV.wt (T : World → Prop) (x : AV) : AV := ⟨fun R v => x.den R v ∧ ∀ w' : World, RLe R w' → T w', fun h ⟨a, b⟩ => ⟨x.mono h a, fun w' hw => b w' fun b o e => hw b o (h b o e)⟩⟩
section
variable {P : Program} {G : Nat → Prop} {n : Nat} {own : List Own} {o : Oper} {E : N7}
theorem core_tab {w0 w : World} {R0 R : G9} {T : World → Prop} (h : T6 G w0 R0 own R w) (ht : ∀ w' : World, RLe R w' → T w') : T6 G w0 R0 (.tab T :: own) R w where
  os := h.os
  tape := h.tape
  output := h.output
  size := h.size
  block := h.block
  rle := h.rle
  rold := h.rold
  owned o ho := by
    rcases Q0.1 ho with rfl | ho
    · exact ht
    · exact h.owned o ho
  fresh o ho b hb := by
    rcases Q0.1 ho with rfl | ho
    · cases hb
    · exact h.fresh o ho b hb
  sep := by
    rw [AU2];exact h.sep
theorem Br6 {env : List (Nat × AV)} {t : Nat} {x : AV} {T : World → Prop} (ht : M8 t env = some (AV.wt T x)) : Le G n ⟨own, env⟩ ⟨.tab T :: own, (t, x) :: env⟩ := fun w0 R0 R a w ⟨h1, h2, h3⟩ => by
  have hx := h2 t _ ht;refine ⟨R, J8.refl _, core_tab h1 hx.2, fun k z hz => ?_, h3⟩;simp only [M8] at hz;by_cases hk : t = k
  · subst hk
    simp [Nat.beq_refl] at hz;rw [← hz];exact hx.1
  · rw [AX2 hk, cond_false] at hz
    exact h2 k z hz
theorem CW2 {f : FuncId} {x y : AV} {T : World → Prop} (h : ∀ (R : G9) (w : World) (v : Value), RLe R w → x.den R v → T w → Calls P f #[v] w fun e w' => ∃ u, e = .returned u ∧ y.den R u ∧ Go.RowKit.Below w.heap.size w w') : J6 P f [AV.wt T x] y := fun R w vs hr hd => by
  match vs, hd.1 with
  | [v], _ =>
    have h1 := hd.2 0 v _ rfl rfl;refine (h R w v hr h1.1 (h1.2 w hr)).mono fun e w' ⟨u, h2, h3, h4⟩ => ⟨u, R, h2, h3, fun b o hb => ?_, fun _ _ => rfl, h4⟩;have hb2 := hr b o hb;rw [h4.block b (AR6.1 hb2).1]; exact hb2
theorem Ch1 (w : World) (k : Nat) (os : Array Obj) : Go.RowKit.Below w.heap.size w (Go.Sort.grow (w.drewN k) os) :=
  ⟨rfl, rfl, rfl, by rw [Go.Sort.size_grow]; exact Nat.le_add_right _ _, fun b hb => Go.Sort.heap_grow_old (w.drewN k) os hb⟩
theorem Cr9 {P : Program} {W w' : World} {name : String} {k : IntKind} {zs : List Int} (h : Lib.TabIs P W name k zs) (hw : RLe (Ao5 W) w') : Lib.TabIs P w' name k zs := by
  unfold Lib.TabIs World.var? at h ⊢
  cases hg : P.globalNamed name with
  | none => rw [hg] at h; cases h
  | some g =>
    rw [hg] at h;simp only [Option.bind_some] at h ⊢
    cases ho : W.heap[g]? with
    | none => rw [ho] at h; cases h
    | some o =>
      rw [ho] at h;rw [hw g o ho];exact h
end
end Go.AV
namespace Go.AV
open Go.RowKit (Below)
def AV.errB (b : Bool) : AV := ⟨fun _ v => (b = false → v = .nilIface) ∧ (b = true → ∃ t p, v = .iface t p), fun _ h => h⟩
section
variable {P : Program} {G : Nat → Prop} {n : Nat} {own : List Own} {o : Oper} {E : N7}
theorem w_errneq {b : Bool} {t : TypeId} {p : Operand} {ty : TypeId} (ho : o.op = .binOp .neq t p (.const .nilIface) ty) (ht : P.underlying t = some (.interface (P.methodsAt t))) (hp : Ev E p (AV.errB b)) : OpW P G n own o E (AV.bool b) := O0 fun R a w _ he => by
  have h1 : (b = false → a.eval p = .nilIface) ∧ (b = true → ∃ t p', a.eval p = .iface t p') := F9 hp N5 he;have h3 : a.eval (.const .nilIface) = .nilIface := rfl
  cases b with
  | false =>
    have h2 := h1.1 rfl;exact ⟨.bool false, by simp only [execOp, ho, h2, h3, eqGuard_nil_constR, Sem.run_bind, Sem.run_pure, Result.andThen_ok, run_neq_nil_nil w t ht], rfl⟩
  | true =>
    obtain ⟨u, x, h2⟩ := h1.2 rfl;exact ⟨.bool true, by simp only [execOp, ho, h2, h3, eqGuard_at_iface, Sem.run_bind, Sem.run_pure, Result.andThen_ok, run_neq_held_nil w t u x ht], rfl⟩
theorem BM1 {f : FuncId} {args : Array Operand} {tys : Array TypeId} {ps : List Operand} {x : AV} {xs : List AV} {y : AV} {T T' : World → Prop} (i : Nat) (hi : own[i]? = some (.tab T')) (ho : o.op = .call { callee := .value (.func f), args := args, argTypes := tys }) (hc : ∀ (vs : Array Value) (w : World), (callFunc f vs).run P w = .ok (.enter f vs) w)
    (hps : args.toList = ps) (hs : J6 P f (AV.wt T x :: xs) y) (he : EvL E ps (x :: xs)) (hT : ∀ w, T' w → T w) : OpW P G n own o E y := fun w0 R0 R a w hcore _ hen => by
  have hd := Af7 hen he fun p hp => by simp [ho, Op.operands, Call.operands]; right; rw [← hps] at hp; exact Array.mem_toList_iff.1 hp
  have htab : ∀ w' : World, RLe R w' → T w' := fun w' hw' => hT w' ((hcore.owned _ (C2 hi)) w' hw');have hd2 : Z7 R (ps.map a.eval) (AV.wt T x :: xs) := ⟨hd.1, fun j v z hv hz => by
    cases j with
    | zero =>
      simp at hz; subst hz;exact ⟨hd.2 0 v x hv rfl, htab⟩
    | succ j => exact hd.2 (j + 1) v z hv hz⟩
  have hrun : (execOp a.eval o).run P w = .ok (.enter f (ps.map a.eval).toArray) w := by
    have hargs : args.map a.eval = (ps.map a.eval).toArray := by rw [← hps]; cases args; simp
    simp only [execOp, ho, resolve, hargs, show a.eval (.func f) = .func (.func f) #[] #[] from rfl];simp [Deferred.ofValue, invoke, hc]
  unfold Oper.wp;rw [hrun, Oper.upon_enter];refine (hs R w _ hcore.rle hd2).mono fun e w' ⟨v, R', e1, e2, e3, e4, e5⟩ => ?_;subst e1;exact ⟨v, R', rfl, hcore.step e5 e3 e4, AP4 hcore.rle e4, e2⟩
theorem Cs0 (w : World) : Below w.heap.size w w := ⟨rfl, rfl, rfl, K5 _, fun _ _ => rfl⟩
theorem Ch2 (w : World) (e : TypeId) (t : ByteArray) : Below w.heap.size w (Lib.bytesWorld w e t) :=
  ⟨rfl, rfl, rfl, by rw [Lib.bytesWorld_size]; exact Nat.le_succ _, fun b hb => Lib.bytesWorld_at_old w e t b hb⟩
theorem CN6 {H : Type} {enc : TypeId × Value → H} {a : Assume} {C : Checked} {os : Os} {f : FuncId} {fn : Func} {s : ChangeSpec} {conds : List PathCond} {apart fresh handsOn again : Bool} {X : World → Array Value → Prop}
    (hX : ∀ (w w' : World) (args : Array Value), w.heap = w'.heap → X w args → X w' args)
    (own : ownKnob C.prog.godebug = none) (started : os.Started) (noInit : C.prog.inits.idxOf? f = none) (hfn : C.prog.funcs[f]? = some fn)
    (witness : ∃ (w : World) (tape : Tape) (i : Input), w.os = os ∧ (w.forCall tape i).Shaped C.prog ∧ i.vars = [] ∧ Input.okWide C.prog (w.forCall tape i) .any w.heap.size f i ∧
      ((s.pre enc C.prog fn conds apart (w.forCall tape i).memory i.args ∧ X (w.forCall tape i).memory i.args) ∧ sizedMet enc C.prog fn (OpenSpec.ofChange s) apart (w.forCall tape i).memory i.args) ∧ a.holds C.prog (lone (Frame.enter C.prog f i.args .normal) [] (w.forCall tape i)))
    (contract : ∀ (W : World) (base : Nat) (args : Array Value) (ds gs : List (DataW H)) (before : List MemPlace),
      (∀ (j : Nat) t v, fn.params[j]? = some t → args[j]? = some v → Value.okWide C.prog W .any base t v) →
      DataW.Whole enc C.prog fn.params.toList s.vars apart W args.toList ds gs before →
      W.ShapedOpen C.prog →
      (DataW.weightsEach C.prog (fn.params.toList ++ s.plain.varTypes C.prog) (ds ++ gs)).all (· ≤ reachBytes) = true → X W args →
      a.holds C.prog (lone (Frame.enter C.prog f args .normal) [] W) →
      Calls C.prog f args W fun e W' => ∃ v, e = .returned v ∧ s.post enc C.prog fn apart fresh handsOn again W args v W') :
    ReturnsInHanded a C os f .any (fun w args => (s.pre enc C.prog fn conds apart w args ∧ X w args) ∧ sizedMet enc C.prog fn (OpenSpec.ofChange s) apart w args) (s.post enc C.prog fn apart fresh handsOn again) := by
  refine returnsInHanded_of_calls own started noInit witness ?_;intro w tape i _ hsh _ hok hpre hholds;obtain ⟨_, _, _, fn', hfn', _, _, _, _, hval⟩ := hok;have e : fn' = fn := Option.some.inj (hfn'.symm.trans hfn);subst e;obtain ⟨⟨⟨ds, gs, before, hw, hc⟩, hx⟩, hz⟩ := hpre;have hw' := DataW.Whole.of_heap (w' := w.forCall tape i) C1 hw;refine (contract (w.forCall tape i) w.heap.size i.args ds gs before hval hw' hsh (hz.weights hw) (hX _ _ _ C1 hx) hholds).mono fun e W' ⟨v, he, hp⟩ => ?_;subst he;exact ChangeSpec.post_blind hp
theorem CW3 {P : Program} {W w' : World} {name : String} {vs : Array Value} (h : W.var? P name = some vs) (hw : RLe (Ao5 W) w') : w'.var? P name = some vs := by
  unfold World.var? at h ⊢
  cases hg : P.globalNamed name with
  | none => rw [hg] at h; cases h
  | some g =>
    rw [hg] at h;simp only [Option.bind_some] at h ⊢
    cases ho : W.heap[g]? with
    | none => rw [ho] at h; cases h
    | some o =>
      rw [ho] at h;rw [hw g o ho];exact h
end
end Go.AV
namespace Go.AV
theorem N2 {α β : Type} {f : α → β} {l : List α} {i : Nat} {x : α} (h : l[i]? = some x) : (l.map f)[i]? = some (f x) := by rw [X2, h]; rfl
theorem B5 {α : Type} {l : List α} {i : Nat} {x y : α} (h : l[i]? = some y) : (l.set i x)[i]? = some x := AO3 (E9.1 h).1
section
variable {P : Program} {G : Nat → Prop} {n : Nat} {own : List Own} {o : Oper} {E : N7}
theorem m9 {f : FuncId} {args : Array Operand} {tys : Array TypeId} {ps : List Operand} {xs : List AV} {y : AV} {s1 r1 : List Own} (is : List Nat) (m : Nat) (B D : List Own) (ho : o.op = .call { callee := .value (.func f), args := args, argTypes := tys })
    (hc : ∀ (vs : Array Value) (w : World), (callFunc f vs).run P w = .ok (.enter f vs) w) (hps : args.toList = ps) (hp : pick own is = (s1, r1)) (hB : (r1.drop m).Perm (B ++ D)) (hs : K7 P f xs (s1 ++ B) (fun _ : Unit => True) (fun _ => s1 ++ B) (fun _ => y)) (he : EvL E ps xs) : OpW P G n own o E y := fun w0 R0 R a w hcore0 _ hen => by
  have hperm : own.Perm ((s1 ++ B) ++ (r1.take m ++ D)) := by
    refine (BR1 hp).trans ?_;have h1 : r1.Perm (r1.take m ++ (B ++ D)) := by
      have := List.Perm.append_left (r1.take m) hB
      rwa [Ab0] at this
    refine (List.Perm.append_left s1 h1).trans ?_;rw [f4];refine List.Perm.append_left s1 ?_;rw [← f4, ← f4];exact List.Perm.append_right D AJ7
  have hcore := w8 hcore0 hperm;have hd := Af7 hen he fun p hp => by simp [ho, Op.operands, Call.operands]; right; rw [← hps] at hp; exact Array.mem_toList_iff.1 hp
  have hrun : (execOp a.eval o).run P w = .ok (.enter f (ps.map a.eval).toArray) w := by
    have hargs : args.map a.eval = (ps.map a.eval).toArray := by rw [← hps]; cases args; simp
    simp only [execOp, ho, resolve, hargs, show a.eval (.func f) = .func (.func f) #[] #[] from rfl];simp [Deferred.ofValue, invoke, hc]
  unfold Oper.wp;rw [hrun, Oper.upon_enter];refine (hs R w _ hcore.rle hd (fun q hq => hcore.owned q (AF1 _ hq)) (m1 hcore).sep).mono fun e w' ⟨x, v, R', e0, e1, e2, e3⟩ => ?_;subst e1;exact ⟨v, R', rfl, w8 (Am6 hcore e3) hperm.symm, AP4 hcore.rle e3.rold, e2⟩
end
section
variable {P : Program} {G : Nat → Prop} {n : Nat} {own : List Own} {o : Oper}
def BU8 (sel : List Own) : Own → Own → Prop
  | .box b t cs, .box b' t' cs' => b = b' ∧ t = t' ∧ AC1 sel cs cs'
  | .arr v t sz es, .arr v' t' sz' es' => v = v' ∧ t = t' ∧ sz = sz' ∧ BU7 sel es es'
  | .frz b t cs, .frz b' t' cs' => b = b' ∧ t = t' ∧ AC1 sel cs cs'
  | .tab T, .tab T' => T = T'
  | _, _ => False
def BA9 (sel own own' : List Own) : Prop := own.length = own'.length ∧ ∀ (i : Nat) (q q' : Own), own[i]? = some q → own'[i]? = some q' → BU8 sel q q'
theorem Br7 {sel : List Own} : BA9 sel [] [] := ⟨rfl, fun i q q' h => by simp at h⟩
theorem Bf9 {sel a b : List Own} {q q' : Own} (h : BU8 sel q q') (k : BA9 sel a b) : BA9 sel (q :: a) (q' :: b) := ⟨by simp [k.1], fun i x y hx hy => by
  cases i with
  | zero => simp at hx hy; subst hx; subst hy; exact h
  | succ i => exact k.2 i x y AX1 Ay5⟩
theorem oc_blk {sel : List Own} {q q' : Own} (h : BU8 sel q q') : Own.blk q = Own.blk q' := by
  cases q <;> cases q' <;> unfold BU8 at h
  · exact C3 some h.1
  · exact h.elim
  · exact h.elim
  · exact h.elim
  · exact h.elim
  · exact C3 Value.ownBlock h.1
  · exact h.elim
  · exact h.elim
  · exact h.elim
  · exact h.elim
  · exact C3 some h.1
  · exact h.elim
  · exact h.elim
  · exact h.elim
  · exact h.elim
  · rfl
theorem oc_map {sel a b : List Own} (h : BA9 sel a b) : a.map Own.blk = b.map Own.blk := by
  refine List.ext_getElem? fun i => ?_;rw [X2, X2]
  cases ha : a[i]? with
  | none =>
    have : b[i]? = none := by rw [List.getElem?_eq_none_iff] at ha ⊢; rw [← h.1]; exact ha
    rw [this]
  | some q =>
    have hi : i < b.length := by rw [← h.1]; exact (E9.1 ha).1
    rw [N6 hi];exact C3 some (oc_blk (h.2 i q _ ha (N6 hi)))
theorem oc_fm {sel a b : List Own} (h : BA9 sel a b) : a.filterMap Own.blk = b.filterMap Own.blk := by
  have := C3 (List.filterMap id) (oc_map h)
  rwa [List.filterMap_map, List.filterMap_map] at this
theorem BY0 {sel : List Own} {xs ys : List AV} {w0 : World} {R0 R : G9} {w : World} {vs : List Value} (hc : T6 G w0 R0 sel R w) (h : l6 R vs xs) (k : AC1 sel xs ys) : l6 (AB1 sel w R) vs ys :=
  ⟨h.1.trans k.1, fun i v y hv hy => by
    have hi : i < xs.length := by rw [k.1]; exact (E9.1 hy).1
    have hx := N6 hi;obtain ⟨h1, h2⟩ := h.2 i v _ hv hx;exact ⟨k.2 i _ y hx hy G w0 R0 R w v hc h1, h2⟩⟩
theorem BR4 {sel rest rest' : List Own} {w0 : World} {R0 R : G9} {w : World} (h : T6 G w0 R0 (sel ++ rest) R w) (hG : ∀ b, G b → b ∈ rest.filterMap Own.blk) (hl : BA9 sel rest rest') : T6 G w0 R0 rest' (AB1 sel w R) w := by
  have hb := BR3 h hG;have hs := m1 h;refine ⟨hb.os, hb.tape, hb.output, hb.size, hb.block, hb.rle, hb.rold, fun q' hq' => ?_, fun q' hq' b hqb => ?_, ?_⟩
  · obtain ⟨i, hi⟩ := X9 hq'
    have hir : i < rest.length := by rw [hl.1]; exact (E9.1 hi).1
    have hr := N6 hir;have hm := C2 hr;have hoc := hl.2 i _ q' hr hi;have k1 := hb.owned _ hm;have k2 := h.owned _ (r4 _ hm)
    revert hoc k1 k2
    generalize rest[i] = q
    intro hoc k1 k2
    cases q <;> cases q' <;> unfold BU8 at hoc
    · obtain ⟨rfl, rfl, hc⟩ := hoc
      obtain ⟨_, vs, hv, hd⟩ := k2;exact ⟨k1.1, vs, hv, BY0 hs hd hc⟩
    · exact hoc.elim
    · exact hoc.elim
    · exact hoc.elim
    · exact hoc.elim
    · obtain ⟨rfl, rfl, rfl, hc⟩ := hoc
      obtain ⟨_, hlen, xs, hx, hd⟩ := k2;refine ⟨k1.1, fun e he => ?_, xs, ?_, BY0 hs hd (CB5 hc)⟩
      · obtain ⟨j, hj⟩ := X9 he
        have hje := N6 (show j < _ from hc.1.symm ▸ (E9.1 hj).1);rw [← (hc.2 j _ e hje hj).1];exact hlen _ (C2 hje)
      · rw [← hc.1]; exact hx
    · exact hoc.elim
    · exact hoc.elim
    · exact hoc.elim
    · exact hoc.elim
    · obtain ⟨rfl, rfl, hc⟩ := hoc
      obtain ⟨_, vs, hv, hd⟩ := k2;exact ⟨k1.1, vs, hv, BY0 hs hd hc⟩
    · exact hoc.elim
    · exact hoc.elim
    · exact hoc.elim
    · exact hoc.elim
    · exact hoc ▸ k1
  · have hm : (some b) ∈ rest'.map Own.blk := Y0.2 ⟨q', hq', hqb⟩
    rw [← oc_map hl] at hm;obtain ⟨q, hq, hqb2⟩ := Y0.1 hm;exact hb.fresh q hq b hqb2
  · rw [← oc_fm hl]; exact hb.sep
theorem AZ5 {α β : Type} {f : FuncId} {xs : List AV} {inw : List Own} {ok : α → Prop} {O : α → List Own} {V : α → AV} {ok' : β → Prop} {O' : β → List Own} {V' : β → AV} (g : α → β) (S rest : α → List Own) (hs : K7 P f xs inw ok O V)
    (hok : ∀ a, ok a → ok' (g a)) (hV : ∀ a, ok a → AL0 (S a) (V a) (V' (g a))) (hp : ∀ a, ok a → (O a).Perm (S a ++ rest a)) (hG : ∀ a, ok a → ∀ b, AR8 inw b → b ∈ (rest a).filterMap Own.blk) (hl : ∀ a, ok a → BA9 (S a) (rest a) (O' (g a))) : K7 P f xs inw ok' O' V' := fun R w vs hr hd ho hn =>
  (hs R w vs hr hd ho hn).mono fun e w' ⟨a, v, R', h0, h1, h2, h3⟩ => by
    have hc := w8 h3 (hp a h0);exact ⟨g a, v, AB1 (S a) w' R', hok a h0, h1, hV a h0 _ _ _ R' w' v (m1 hc) h2, BR4 hc (hG a h0) (hl a h0)⟩
theorem Co1 {sel : List Own} (q : Own) : BU8 sel q q := by
  cases q with
  | box b t cs => exact ⟨rfl, rfl, AE4⟩
  | arr v t sz es => exact ⟨rfl, rfl, rfl, F6⟩
  | frz b t cs => exact ⟨rfl, rfl, AE4⟩
  | tab T => exact rfl
theorem oc_set {sel l : List Own} {i : Nat} {q q' : Own} (hi : l[i]? = some q) (hc : BU8 sel q q') : BA9 sel l (l.set i q') := ⟨by simp, fun j x y hx hy => by
  by_cases h : i = j
  · subst h
    rw [AO3 (E9.1 hi).1] at hy;rw [hi] at hx;injection hx with hx; injection hy with hy; subst hx; subst hy; exact hc
  · rw [AY3 h, hx] at hy
    injection hy with hy; subst hy; exact Co1 _⟩
theorem CW4 {env : List (Nat × AV)} {q : Own} (k i : Nat) (q' : Own) (hi : (own.take k)[i]? = some q) (hc : BU8 (own.drop k) q q') (hG : ∀ b, G b → b ∈ (own.take k).filterMap Own.blk) : Le G n ⟨own, env⟩ ⟨(own.take k).set i q', env⟩ := fun w0 R0 R a w ⟨h1, h2, h3⟩ => by
  have h9 := AJ7 (l₁ := own.drop k) (l₂ := own.take k);rw [Ab0] at h9;have hp : T6 G w0 R0 (own.drop k ++ own.take k) R w := w8 h1 h9.symm;exact ⟨AB1 (own.drop k) w R, AK0 (m1 hp), BR4 hp hG (oc_set hi hc), fun t z hz => z.mono (AK0 (m1 hp)) (h2 t z hz), h3⟩
theorem Ar5 {env : List (Nat × AV)} {sel rest : List Own} {q : Own} (is : List Nat) (i : Nat) (q' : Own) (hp : pick own is = (sel, rest)) (hi : rest[i]? = some q) (hc : BU8 sel q q') (hG : ∀ b, G b → b ∈ rest.filterMap Own.blk) : Le G n ⟨own, env⟩ ⟨rest.set i q', env⟩ := fun w0 R0 R a w ⟨h1, h2, h3⟩ => by
  have hk := AW6 h1 hp;exact ⟨AB1 sel w R, AK0 (m1 hk), BR4 hk hG (oc_set hi hc), fun t z hz => z.mono (AK0 (m1 hk)) (h2 t z hz), h3⟩
section
variable {T X : Type} {ocs : T → X → List AV} {cs : T → List AV} {ow : T → X → List Own}
theorem Al2 {own : List Own} {l : List T} {xs : List X} (hlc : ∀ p x, (∀ o ∈ ow p x, o ∈ own) → AC1 own (ocs p x) (cs p)) (hlen : xs.length = l.length) (hm : ∀ o ∈ nin ow l xs, o ∈ own) : BU7 own (J7 ocs l xs) (l.map cs) := by
  refine ⟨by rw [W8 hlen, A7], fun j a b ha hb => ?_⟩;rw [X2] at hb
  cases hp : l[j]? with
  | none => rw [hp] at hb; cases hb
  | some p =>
    rw [hp] at hb;have hj := (E9.1 hp).1;obtain ⟨x, hx⟩ : ∃ x, xs[j]? = some x := ⟨_, N6 qz8⟩;rw [c8 hp hx] at ha;injection ha with ha; injection hb with hb; subst ha; subst hb
    exact hlc p x fun o ho => hm o (Bf7 hp hx o ho)
end
end
section
variable {P : Program} {G : Nat → Prop} {n : Nat} {own : List Own} {o : Oper}
end
end Go.AV
namespace Go.AV
open Go.RowKit (Below)
section
variable {P : Program} {G : Nat → Prop} {n : Nat} {own : List Own} {o : Oper} {E : N7}
theorem w_tlen {t e : TypeId} {p : Operand} {v : Value} {sz lo : Nat} {es : List (List AV)} (i : Nat) (ho : o.op = .call { callee := .builtin .len, args := #[p], argTypes := #[t] }) (ht : P.underlying t = some (.slice e)) (hp : Ev E p (AV.is (Ah2 lo sz v))) (hi : own[i]? = some (.arr v e sz es)) : OpW P G n own o E (AV.int ((es.length - lo : Nat) : Int)) := AF2 fun w0 R0 R a w hcore he => by
  have h1 : a.eval p = _ := F9 hp Aa6 he;obtain ⟨_, _, xs, hown, _⟩ := hcore.owned _ (C2 hi);obtain ⟨oa, c, rfl, _⟩ := BC9 hown;have hel : P.elem t = e := by simp [Program.elem, ht]
  have h2 := fun (b : Option Addr) => run_len_slice (P := P) w t o.type b (es.length - lo) (c - lo) AI3;exact ⟨.int .i64 (es.length - lo : Nat), by simp only [execOp, ho, resolve, invoke, builtin, AD6, U8, List.map_nil, h1, Ah2, sliced, h2, Sem.run_bind, Sem.run_pure, Result.andThen_ok, goInt], rfl⟩
theorem CW5 {t e : TypeId} {p q : Operand} {v : Value} {sz lo : Nat} {es : List (List AV)} {k : Int} (i : Nat) (ho : o.op = .indexAddr t p q) (ht : P.underlying t = some (.slice e)) (hsz : ∀ w, (sizeOf e).run P w = .ok sz w) (hp : Ev E p (AV.is (Ah2 lo sz v))) (hi : own[i]? = some (.arr v e sz es)) (hq : Ev E q (AV.int k)) (h0 : 0 ≤ k) (hk : lo + k < es.length) :
    OpW P G n own o E (AV.is (u9 v ((lo + k.toNat) * sz))) := AF2 fun w0 R0 R a w hcore he => by
  have h1 : a.eval p = _ := F9 hp N5 he;have h2 : a.eval q = .int .i64 k := F9 hq N5 he;obtain ⟨_, _, xs, hown, _⟩ := hcore.owned _ (C2 hi);rcases hown.2 with ⟨rfl, hz⟩ | ⟨g, cap, cur, rfl, _, _, hn, _⟩
  · rw [hz] at hk; simp at hk; omega
  · have hel : P.elem t = e := by simp [Program.elem, ht]
    have hne : ¬ cap = lo := by omega
    have hk2 : k < ((es.length - lo : Nat) : Int) := by omega
    have h3 := run_indexAt_slice (P := P) w t ((⟨g, 0, none⟩ : Addr).add (lo * sz)) (es.length - lo) (cap - lo) .i64 k AI3;rw [D0 ⟨h0, hk2⟩, hel, hsz, Result.andThen_ok] at h3;have e : (lo + k.toNat) * sz = lo * sz + k.toNat * sz := Nat.add_mul _ _ _;refine ⟨.pointer (some (Addr.add ((⟨g, 0, none⟩ : Addr).add (lo * sz)) (k.toNat * sz))), by simp only [execOp, ho, h1, h2, Ah2, sliced, C6 hne, r6, h3, Sem.run_bind, Sem.run_pure, Result.andThen_ok], ?_⟩;rw [e];show Value.pointer _ = Value.pointer (some (Addr.add ⟨g, 0, none⟩ (lo * sz + k.toNat * sz)))
    simp only [addr_add, Nat.zero_add]
def f8 (own : List Own) (E : N7) (q : Operand) (sz : Nat) (fs : List (List AV)) : Prop :=
  ∀ (G : Nat → Prop) (w0 : World) (R0 R : G9) (a : Act) (w : World), T6 G w0 R0 own R w → (∀ t, q = .tmp t → ∀ y, E t = some y → y.den R (a.tmps.getD t undef)) →
    (∀ f ∈ fs, f.length = sz) ∧ ∃ oa cap vs, a.eval q = .slice oa fs.length cap ∧ (fs ≠ [] → ∃ ad, oa = some ad ∧ (∀ j u, vs[j]? = some u → w.cell? (ad.add j) = some u) ∧ l6 R vs fs.flatten)
theorem BK0 {ops : Array Oper} {t e : TypeId} {p q : Operand} {sz by' : Nat} {inf : TypeInfo} {z : Value} {v : Value} {es fs : List (List AV)} (i : Nat) (ho : o.op = .call { callee := .builtin .append, args := #[p, q], argTypes := #[t, t] }) (ht : P.underlying t = some (.slice e)) (hinf : P.info? e = some inf) (hz : inf.zero = some z) (hsz : inf.size = sz) (hby : inf.bytes = by') (hzs : z.cells.size = sz) (hpos : Nat.ble 1 sz = true) (hpos2 : Nat.ble 1 by' = true) (hp : Ev E p (AV.is v)) (hq : f8 own E q sz fs) (hi : own[i]? = some (.arr v e sz es))
    (hlen : (es.length + fs.length) * by' ≤ 140737488355328) : OpE P G n own ops o E (fun _ : Value => True) (fun v' => own.set i (.arr v' e sz (es ++ fs))) (fun v' => AV.is v') :=
  fun w0 R0 R a w h1 h3 h2 => by
    have e1 : a.eval p = v := Ak1 (ops := ops) hp Aa6 h2;obtain ⟨hu, oa, c, ns, e2, hcell⟩ := hq G w0 R0 R a w h1 (fun t ht y hy => h2 t (Af4 (by subst ht; exact List.mem_filterMap.2 ⟨.tmp t, by simp [ho, Op.operands, Call.operands], rfl⟩)) y hy);obtain ⟨hR, hue, xs, hown, hdc⟩ := h1.owned _ (C2 hi);have hb1 := AB9 hpos;have hb2 := AB9 hpos2;have hsum : es.length + fs.length ≤ 140737488355328 := L8 (Nat.le_mul_of_pos_right _ hb2) hlen;have hufs : ∀ x ∈ es ++ fs, x.length = sz := fun x hx => by
      rcases o5.1 hx with h | h
      · exact hue x h
      · exact hu x h
    by_cases hfs : fs = []
    · subst hfs
      have hrun : ∃ v', (Builtin.append_ #[t, t] o.type #[v, a.eval q]).run P w = .ok v' w ∧ v' = v := by
        refine ⟨v, ?_, rfl⟩;rw [e2];rcases hown.2 with ⟨rfl, hz0⟩ | ⟨g, cap, cur, rfl, _, _, hnc, _⟩
        · cases oa with
          | none => simp [Builtin.append_, run_underlying ht, sizeOf, typeInfo, hinf, Builtin.lenOf, Builtin.firstCells, hz0]
          | some ad => simp [Builtin.append_, run_underlying ht, sizeOf, typeInfo, hinf, Builtin.lenOf, Builtin.firstCells, loadCells, loadCellsFrom, hz0]
        · cases oa with
          | none => simp [Builtin.append_, run_underlying ht, sizeOf, typeInfo, hinf, Builtin.lenOf, Builtin.firstCells, hnc, storeCells]
          | some ad => simp [Builtin.append_, run_underlying ht, sizeOf, typeInfo, hinf, Builtin.lenOf, Builtin.firstCells, loadCells, loadCellsFrom, hnc, storeCells]
      obtain ⟨v', hr, rfl⟩ := hrun;have hex : (execOp a.eval o).run P w = .ok (.value v') w := by
        simp only [execOp, ho, resolve, invoke, builtin, Sem.run_bind, Sem.run_pure, Result.andThen_ok, AD6, U8, List.map_nil, e1, hr]
      unfold Oper.wp;rw [hex, Oper.upon_value];have hset : own.set i (.arr v' e sz (es ++ [])) = own := by
        rw [Q6];obtain ⟨hlt, he⟩ := E9.1 hi;rw [← he]; exact List.set_getElem_self hlt
      exact ⟨v', v', R, trivial, rfl, by show T6 G w0 R0 (own.set i (.arr v' e sz (es ++ []))) R w; rw [hset]; exact h1, J8.refl _, rfl⟩
    · obtain ⟨ad, rfl, hn2, hn3⟩ := hcell hfs
      have hn1 : ns.length = fs.flatten.length := hn3.1;have hnl : ns.length = fs.length * sz := by rw [hn1, m7 hu]
      have hone : ∀ u ∈ ns, u.oneCell' = true := fun u hm => by
        obtain ⟨j, hj⟩ := X9 hm;have hjl : j < fs.flatten.length := by rw [← hn1]; exact (E9.1 hj).1
        exact (hn3.2 j u _ hj (N6 hjl)).2
      obtain ⟨v', w', hr, hown', hgr, _, hblk⟩ := run_append_own_at (P := P) w 0 t o.type e inf z sz by' ht hinf hz hsz hby hzs hb1 v es.length xs hown ad fs.length c ns hnl hn2 hone Be6 hlen (E2 _);have hex : (execOp a.eval o).run P w = .ok (.value v') w' := by
        simp only [execOp, ho, resolve, invoke, builtin, Sem.run_bind, Sem.run_pure, Result.andThen_ok, AD6, U8, List.map_nil, e1, e2, hr]
      unfold Oper.wp;rw [hex, Oper.upon_value];refine ⟨v', v', R, trivial, rfl, Av8 h1 hi (fun b hb => ?_) ⟨fun b hb => ?_, hufs, xs ++ ns, ?_, ?_⟩ hgr, J8.refl _, rfl⟩
      · simp only [Own.blk] at hb ⊢
        rcases hblk with h | h
        · exact .inl BF5
        · rw [hb] at h; injection h with h; exact .inr h
      · rcases hblk with h | h
        · exact hR b BF5
        · rw [hb] at h; injection h with h; subst h; exact Ar0 h1.rle
      · rw [H3]; exact hown'
      · rw [AU1]; exact AI5 hdc hn3
theorem lt_tailm {α : Type} {f : α → List AV} {l : List α} {v : Value} {e : TypeId} {sz lo k : Nat} (hm : Own.arr v e sz (l.map f) ∈ own) (hlo : lo = k) (hk : k ≤ l.length) : AL0 own (AV.is (Ah2 lo sz v)) (AV.list sz ((l.drop k).map f)) := fun G w0 R0 R w u hc hu => by
  subst hlo
  cases (show u = Ah2 lo sz v from hu)
  obtain ⟨_, _, xs, hown, _⟩ := hc.owned _ hm;obtain ⟨oa, c, hv, hnc⟩ := BC9 hown;have h1 := K0 hm F6 G w0 R0 R w v hc rfl;obtain ⟨oa', c', e1, k1, k2, k3, k4⟩ := h1;subst e1;have h9 := BQ6 (R := AB1 own w R) (lo := lo) (hi := (l.map f).length) (es := l.map f) (oa := oa') rfl k1 k2 k3 k4 (by rw [A7]; exact hk) (K5 _);rw [AJ5, ← List.map_drop] at h9;exact h9
end
end Go.AV
namespace Go.AV
section
variable {P : Program} {G : Nat → Prop} {n : Nat} {own : List Own} {env : List (Nat × AV)} {fn : Func}
theorem BY1 {sel : List Own} {cs : List AV} {sz : Nat} (j : Nat) (h : cs[j]? = some AV.nils) : AC1 sel cs (cs.set j (AV.list sz [])) := ⟨by rw [Z0], fun i x y hx hy => by
  by_cases e : j = i
  · subst e
    rw [AO3 (E9.1 h).1] at hy;rw [h] at hx;injection hx with hx; injection hy with hy; subst hx; subst hy
    exact Cn7
  · rw [AY3 e, hx] at hy
    injection hy with hy; subst hy; exact I0⟩
theorem Bm2 {E : N7} {q : Operand} {v : Value} {e : TypeId} {sz : Nat} {es : List (List AV)} (i : Nat) (hi : own[i]? = some (.arr v e sz es)) (hq : Ev E q (AV.is v)) : f8 own E q sz es := fun G w0 R0 R a w hc he => by
  have e1 : a.eval q = _ := hq R a he;have hok := hc.owned _ (C2 hi);have hu := hok.2.1;refine ⟨hu, ?_⟩;obtain ⟨_, _, xs0, hown0, _⟩ := hok;rcases hown0.2 with ⟨h1, h2⟩ | ⟨g, cap, cur0, h1, _⟩
  · subst h1
    have h3 : es = [] := Ao1 h2;subst h3;exact ⟨none, 0, [], e1, fun h => absurd rfl h⟩
  · subst h1
    by_cases hne : es = []
    · subst hne; exact ⟨_, cap, [], e1, fun h => absurd rfl h⟩
    · have hsrc := AX5 (own := own) (E := E) (q := q) i hi hq
      obtain ⟨_, h7⟩ := hsrc G w0 R0 R a w hc he;obtain ⟨ad, c, vs, k1, k2, k3⟩ := h7 hne;exact ⟨_, c, vs, k1, fun _ => ⟨ad, rfl, k2, k3⟩⟩
theorem Ac8 {o : Oper} {ops : Array Oper} {E : N7} {α : Type} {ok : α → Prop} {W' : α → List Own} {V : α → AV} {sel rest : α → List Own} {Y : α → AV} (is : List Nat) (hp : ∀ a, pick (W' a) is = (sel a, rest a)) (hl : ∀ a, AL0 (sel a) (V a) (Y a)) (hG : ∀ a b, G b → b ∈ (rest a).filterMap Own.blk)
    (h : OpE P G n own ops o E ok W' V) : OpE P G n own ops o E ok rest Y := fun w0 R0 R a w h1 h2 h3 =>
  Oper.wp_mono2 (fun a' w' ⟨x, v, R', e0, e1, e2, e3, e4⟩ =>
    have hk := AW6 e2 (hp x)
    ⟨x, v, AB1 (sel x) w' R', e0, e1, BR3 hk (hG x), e3.trans (AK0 (m1 hk)), hl x G w0 R0 R' w' v (m1 hk) e4⟩) (fun _ _ _ h => h) (h w0 R0 R a w h1 h2 h3)
theorem Ag1 (i j sz : Nat) {b : Nat} {t : TypeId} {cs : List AV} (hi : own[i]? = some (.box b t cs)) (hj : cs[j]? = some AV.nils) (hG : ∀ b, G b → b ∈ own.filterMap Own.blk) : Le G n ⟨own, env⟩ ⟨own.set i (.box b t (cs.set j (AV.list sz []))), env⟩ :=
  Ar5 [] i (.box b t (cs.set j (AV.list sz []))) rfl hi ⟨rfl, rfl, BY1 j hj⟩ hG
theorem AN4 {α : Type} {ok : α → Prop} {O : α → List Own} {V : α → AV} (i j sz : Nat) {b : Nat} {t : TypeId} {cs : List AV} (hi : own[i]? = some (.box b t cs)) (hj : cs[j]? = some AV.nils) (hG : ∀ b, G b → b ∈ own.filterMap Own.blk)
    (k : H9 P G n fn ⟨own.set i (.box b t (cs.set j (AV.list sz []))), env⟩ ok O V) : H9 P G n fn ⟨own, env⟩ ok O V := fun w0 R0 R a w hs => by
  have hle : Le G n ⟨own, env⟩ ⟨own.set i (.box b t (cs.set j (AV.list sz []))), env⟩ := Ar5 [] i (.box b t (cs.set j (AV.list sz []))) rfl hi ⟨rfl, rfl, BY1 j hj⟩ hG;obtain ⟨R1, h1, h2⟩ := hle w0 R0 R a w hs;obtain ⟨x, v, R2, g0, g1, g2, g3, g4⟩ := k w0 R0 R1 a w h2;exact ⟨x, v, R2, g0, g1, g2, h1.trans g3, g4⟩
theorem BK1 {y : AV} (i j sz : Nat) {b : Nat} {t : TypeId} {cs : List AV} (hi : own[i]? = some (.box b t cs)) (hj : cs[j]? = some AV.nils)
    (k : K2 P (fun _ => False) n fn ⟨own.set i (.box b t (cs.set j (AV.list sz []))), env⟩ y) : K2 P (fun _ => False) n fn ⟨own, env⟩ y := fun w0 R0 R a w hs => by
  have hle : Le (fun _ => False) n ⟨own, env⟩ ⟨own.set i (.box b t (cs.set j (AV.list sz []))), env⟩ := Ar5 [] i (.box b t (cs.set j (AV.list sz []))) rfl hi ⟨rfl, rfl, BY1 j hj⟩ BH1;obtain ⟨R1, h1, h2⟩ := hle w0 R0 R a w hs;obtain ⟨v, R2, h3, h4, h5, h6⟩ := k w0 R0 R1 a w h2;exact ⟨v, R2, h3, h4, h1.trans h5, h6⟩
end
section
variable {P : Program} {G : Nat → Prop} {n : Nat} {own : List Own} {o : Oper} {E : N7}
@[reducible] def byteC (b : UInt8) : List AV := [AV.ik .u8 b.toNat]
theorem Br8 : ∀ (bs : List UInt8), (bs.map byteC).flatten = bs.map fun b => AV.ik .u8 b.toNat
  | [] => rfl
  | b :: bs => by rw [U8, AJ4, Br8 bs]; rfl
theorem Cs1 {w : World} {oa : Option Addr} {c : Nat} {bs : List UInt8} {src dst e : TypeId} (hs : P.underlying src = some (.slice e)) (he : P.underlying e = some (.int .u8)) (hdst : P.underlying dst = some .string)
    (h : bs ≠ [] → ∃ a, oa = some a ∧ ∀ (j : Nat) (b : UInt8), bs[j]? = some b → w.cell? (a.add j) = some (.int .u8 b.toNat)) :
    (convert src dst (.slice oa bs.length c)).run P w = .ok (.string ⟨bs.toArray⟩) w := by
  cases oa with
  | none =>
    have hb : bs = [] := by
      cases bs with
      | nil => rfl
      | cons b t => obtain ⟨a, ha, _⟩ := h Z1; cases ha
    subst hb;exact Go.run_convert_bytes_nil (w := w) (P := P) src e hs he _ _ dst hdst
  | some a =>
    have hl : (loadCells a bs.length).run P w = .ok ((bs.map fun b => (b.toNat : Int)).map (Value.int .u8)).toArray w := by
      have := run_loadCells_list (P := P) (w := w) a ((bs.map fun b => (b.toNat : Int)).map (Value.int .u8)) (fun j v hj => by
        rw [X2, X2] at hj
        cases hb : bs[j]? with
        | none => rw [hb] at hj; cases hj
        | some b =>
          rw [hb] at hj;injection hj with hj; subst hj
          obtain ⟨a', ha, hc⟩ := h (by intro hn; rw [hn] at hb; simp at hb);injection ha with ha; subst ha
          exact hc j b hb)
      simpa using this
    rw [Go.run_convert_bytes_string w src dst e _ _ c hs he hdst, Go.run_bytesToString w a bs.length c _ hl, Go.foldl_push_bytes];refine C3 (fun b => Result.ok (Value.string b) w) ?_;refine ByteArray.ext ?_;apply Array.toList_inj.1
    simp [ByteArray.empty, ByteArray.emptyWithCapacity];show [] ++ bs.map (fun b => UInt8.ofNat (Int.toNat (b.toNat : Int))) = bs
    rw [AC0];conv => rhs; rw [← List.map_id bs]
    refine List.map_congr_left fun b _ => ?_;rw [l4];simp
theorem DA1 {R : G9} {w : World} {v : Value} {bs : List UInt8} {src dst e : TypeId} (hr : RLe R w) (hd : (AV.list 1 (bs.map byteC)).den R v) (hs : P.underlying src = some (.slice e)) (he : P.underlying e = some (.int .u8)) (hdst : P.underlying dst = some .string) :
    (convert src dst v).run P w = .ok (.string ⟨bs.toArray⟩) w := by
  obtain ⟨oa, c, rfl, h1, h2, _, h4⟩ := hd;rw [A7];refine Cs1 hs he hdst fun hn => ?_;obtain ⟨a, ha, hc⟩ := h4 (by intro hm; exact hn (List.map_eq_nil_iff.1 hm));refine ⟨a, ha, fun j b hb => ?_⟩;rw [Br8] at hc;obtain ⟨u, hu, hx, _⟩ := hc j (AV.ik .u8 b.toNat) (by rw [X2, hb]; rfl);rw [AQ1 hr hu];exact C3 some hx
theorem Co2 {src dst e : TypeId} {p : Operand} {bs : List UInt8} (ho : o.op = .convert src dst p) (hs : P.underlying src = some (.slice e)) (he : P.underlying e = some (.int .u8)) (hd : P.underlying dst = some .string) (hp : Ev E p (AV.list 1 (bs.map byteC))) : OpW P G n own o E (AV.str bs) := O0 fun R a w hr hv => by
  have h1 := F9 hp N5 hv;exact ⟨.string ⟨bs.toArray⟩, by simp [execOp, ho, DA1 hr h1 hs he hd], rfl⟩
end
end Go.AV
namespace Go.AV
open Go.Proofs
class UnC (t : Nat) (x : outParam (Option TypeDesc)) : Prop where
  h : Tryz.prog.underlying t = x
class SzC (t : Nat) (x : outParam Nat) : Prop where
  h : ∀ w, (sizeOf t).run Tryz.prog w = .ok x w
class AgC (t : Nat) (x : outParam Bool) : Prop where
  h : ∀ w, (isAgg t).run Tryz.prog w = .ok x w
class ZvC (t : Nat) (x : outParam Value) : Prop where
  h : ∀ w, (zeroValue t).run Tryz.prog w = .ok x w
class TyC (t : Nat) (x : outParam TypeInfo) : Prop where
  h : Tryz.prog.types[t]? = some x
class CaC (f : Nat) : Prop where
  h : ∀ (a : Array Value) (w : World), (callFunc f a).run Tryz.prog w = .ok (.enter f a) w
class PlC (t : Nat) (x : outParam (Array (Nat × Nat))) : Prop where
  h : ∃ fs, Tryz.prog.underlying t = some (.struct fs) ∧ ∀ w, (fs.mapM (m := Sem) fun f => do pure (f.offset, ← sizeOf f.type)).run Tryz.prog w = .ok x w
theorem plL {t : Nat} {x : Array (Nat × Nat)} [u : PlC t x] : ∃ fs, Tryz.prog.underlying t = some (.struct fs) ∧ ∀ w, (fs.mapM (m := Sem) fun f => do pure (f.offset, ← sizeOf f.type)).run Tryz.prog w = .ok x w := u.h
theorem unL {t : Nat} {x : Option TypeDesc} [u : UnC t x] : Tryz.prog.underlying t = x := u.h
theorem szL {t x : Nat} [u : SzC t x] : ∀ w, (sizeOf t).run Tryz.prog w = .ok x w := u.h
theorem agL {t : Nat} {x : Bool} [u : AgC t x] : ∀ w, (isAgg t).run Tryz.prog w = .ok x w := u.h
theorem zvL {t : Nat} {x : Value} [u : ZvC t x] : ∀ w, (zeroValue t).run Tryz.prog w = .ok x w := u.h
instance iA139 : AgC 139 true := ⟨Tryz.isAgg139⟩
instance iA175 : AgC 175 true := ⟨AV1⟩
instance iU58 : UnC 58 (some Tryz.t57.desc) := ⟨d8⟩
instance iU9 : UnC 9 (some Tryz.t9.desc) := ⟨O5⟩
instance iA64 : AgC 64 true := ⟨Tryz.isAgg64⟩
instance iU129 : UnC 129 (some Tryz.t129.desc) := ⟨O9⟩
instance iA5 : AgC 5 false := ⟨Tryz.isAgg5⟩
instance iU61 : UnC 61 (some Tryz.t60.desc) := ⟨V4⟩
instance iS78 : SzC 78 1 := ⟨y9⟩
instance iS55 : SzC 55 1 := ⟨AF9⟩
instance iS59 : SzC 59 1 := ⟨n7⟩
instance iA183 : AgC 183 true := ⟨z6⟩
instance iU54 : UnC 54 (some Tryz.t54.desc) := ⟨D2⟩
instance iA35 : AgC 35 false := ⟨Tryz.isAgg35⟩
instance iU97 : UnC 97 (some Tryz.t97.desc) := ⟨T0⟩
instance iU55 : UnC 55 (some Tryz.t55.desc) := ⟨F5⟩
instance iA59 : AgC 59 false := ⟨Tryz.isAgg59⟩
instance iU177 : UnC 177 (some Tryz.t176.desc) := ⟨Tryz.underlying177⟩
instance iU183 : UnC 183 (some Tryz.t182.desc) := ⟨Tryz.underlying183⟩
instance iZ97 : ZvC 97 (E4) := ⟨Tryz.zeroValue97⟩
instance iA56 : AgC 56 false := ⟨Tryz.isAgg56⟩
instance iA24 : AgC 24 false := ⟨Tryz.isAgg24⟩
instance iA79 : AgC 79 false := ⟨Tryz.isAgg79⟩
instance iU145 : UnC 145 (some Tryz.t144.desc) := ⟨Tryz.underlying145⟩
instance iU29 : UnC 29 (some Tryz.t29.desc) := ⟨M9⟩
instance iS46 : SzC 46 1 := ⟨Tryz.sizeOf46⟩
instance iU67 : UnC 67 (some Tryz.t66.desc) := ⟨Tryz.underlying67⟩
instance iS22 : SzC 22 1 := ⟨Tryz.sizeOf22⟩
instance iA177 : AgC 177 true := ⟨Tryz.isAgg177⟩
instance iA29 : AgC 29 false := ⟨Tryz.isAgg29⟩
instance iU105 : UnC 105 (some Tryz.t104.desc) := ⟨O1⟩
instance iS99 : SzC 99 1 := ⟨AV2⟩
instance iU170 : UnC 170 (some Tryz.t169.desc) := ⟨Tryz.underlying170⟩
instance iA46 : AgC 46 false := ⟨Tryz.isAgg46⟩
instance iS244 : SzC 244 3 := ⟨Y1⟩
instance iZ64 : ZvC 64 (Value.agg #[Value.int IntKind.i64 0, Value.string (ByteArray.mk #[]), Value.bool false]) := ⟨Tryz.zeroValue64⟩
instance iZ5 : ZvC 5 (Value.int IntKind.u8 0) := ⟨Tryz.zeroValue5⟩
instance iZ3 : ZvC 3 (Value.int IntKind.i64 0) := ⟨Tryz.zeroValue3⟩
instance iU81 : UnC 81 (some Tryz.t80.desc) := ⟨W5⟩
instance iU25 : UnC 25 (some Tryz.t25.desc) := ⟨E3⟩
instance iZ25 : ZvC 25 (E4) := ⟨Tryz.zeroValue25⟩
instance iS139 : SzC 139 3 := ⟨i8⟩
instance iU28 : UnC 28 (some Tryz.t28.desc) := ⟨G5⟩
instance iU164 : UnC 164 (some Tryz.t164.desc) := ⟨AG6⟩
instance iZ175 : ZvC 175 (Value.agg #[Value.int IntKind.i64 0, Value.int IntKind.i64 0, Value.int IntKind.i64 0, Value.int IntKind.i64 0, E4, E4, Value.bool false]) := ⟨Tryz.zeroValue175⟩
instance iA244 : AgC 244 true := ⟨Tryz.isAgg244⟩
instance iU64 : UnC 64 (some Tryz.t63.desc) := ⟨Tryz.underlying64⟩
instance iS25 : SzC 25 1 := ⟨z7⟩
instance iS5 : SzC 5 1 := ⟨Tryz.sizeOf5⟩
instance iU52 : UnC 52 (some Tryz.t52.desc) := ⟨AH6⟩
instance iU139 : UnC 139 (some Tryz.t138.desc) := ⟨Tryz.underlying139⟩
instance iS175 : SzC 175 7 := ⟨AD7⟩
instance iS170 : SzC 170 3 := ⟨n5⟩
instance iZ239 : ZvC 239 (Value.agg #[Value.int IntKind.i64 0, Value.int IntKind.i64 0, Value.int IntKind.i64 0, E4, E4]) := ⟨Tryz.zeroValue239⟩
instance iZ102 : ZvC 102 (Value.agg #[E4, E4, E4, Value.int IntKind.i64 0, Value.int IntKind.i64 0, Value.bool false, Value.int IntKind.i64 0, Value.bool false, Value.bool false, Value.bool false]) := ⟨Tryz.zeroValue102⟩
instance iA54 : AgC 54 false := ⟨Tryz.isAgg54⟩
instance iS105 : SzC 105 6 := ⟨Tryz.sizeOf105⟩
instance iZ81 : ZvC 81 (Value.agg #[E4, Value.int IntKind.i64 0, Value.int IntKind.i64 0]) := ⟨Tryz.zeroValue81⟩
instance iA58 : AgC 58 true := ⟨P2⟩
instance iS102 : SzC 102 10 := ⟨S6⟩
instance iZ183 : ZvC 183 (Value.agg #[Value.int IntKind.i64 0, Value.string (ByteArray.mk #[]), Value.string (ByteArray.mk #[]), Value.int IntKind.i64 0]) := ⟨Tryz.zeroValue183⟩
instance iA102 : AgC 102 true := ⟨Tryz.isAgg102⟩
instance iU197 : UnC 197 (some Tryz.t196.desc) := ⟨Tryz.underlying197⟩
instance iA131 : AgC 131 true := ⟨Tryz.isAgg131⟩
instance iS131 : SzC 131 3 := ⟨J2⟩
instance iZ78 : ZvC 78 (Value.agg #[Value.int IntKind.i64 0]) := ⟨Tryz.zeroValue78⟩
instance iU56 : UnC 56 (some Tryz.t56.desc) := ⟨P7⟩
instance iZ9 : ZvC 9 (Value.string (ByteArray.mk #[])) := ⟨Tryz.zeroValue9⟩
instance iU22 : UnC 22 (some Tryz.t22.desc) := ⟨q6⟩
instance iZ131 : ZvC 131 (Value.agg #[Value.bool false, E4, Value.int IntKind.i64 0]) := ⟨Tryz.zeroValue131⟩
instance iA22 : AgC 22 false := ⟨Tryz.isAgg22⟩
instance iS81 : SzC 81 3 := ⟨E0⟩
instance iS177 : SzC 177 8 := ⟨V2⟩
instance iS79 : SzC 79 1 := ⟨AV3⟩
instance iS28 : SzC 28 1 := ⟨AV4⟩
instance iS35 : SzC 35 1 := ⟨Tryz.sizeOf35⟩
instance iU165 : UnC 165 (some Tryz.t165.desc) := ⟨Tryz.underlying165⟩
instance iA30 : AgC 30 false := ⟨Tryz.isAgg30⟩
instance iS27 : SzC 27 1 := ⟨Tryz.sizeOf27⟩
instance iZ228 : ZvC 228 (Value.agg #[Value.int IntKind.i64 0, Value.int IntKind.i64 0]) := ⟨Tryz.zeroValue228⟩
instance iU24 : UnC 24 (some Tryz.t24.desc) := ⟨S0⟩
instance iA145 : AgC 145 true := ⟨Tryz.isAgg145⟩
instance iA239 : AgC 239 true := ⟨AV5⟩
instance iA97 : AgC 97 false := ⟨Tryz.isAgg97⟩
instance iA32 : AgC 32 true := ⟨U9⟩
instance iZ58 : ZvC 58 (Value.agg #[Value.int IntKind.i64 0, E4, E4, E4]) := ⟨Tryz.zeroValue58⟩
instance iS3 : SzC 3 1 := ⟨E7⟩
instance iZ4 : ZvC 4 (Value.bool false) := ⟨Tryz.zeroValue4⟩
instance iZ197 : ZvC 197 (Value.agg #[Value.int IntKind.i64 0, Value.int IntKind.i64 0, E4, E4, E4, E4, E4, E4, E4]) := ⟨Tryz.zeroValue197⟩
instance iS100 : SzC 100 1 := ⟨T9⟩
instance iS145 : SzC 145 3 := ⟨d9⟩
instance iZ145 : ZvC 145 (Value.agg #[Value.string (ByteArray.mk #[]), Value.string (ByteArray.mk #[]), Value.bool false]) := ⟨Tryz.zeroValue145⟩
instance iS4 : SzC 4 1 := ⟨V0⟩
instance iU59 : UnC 59 (some Tryz.t59.desc) := ⟨V5⟩
instance iZ244 : ZvC 244 (Value.agg #[Value.int IntKind.i64 0, Value.bool false, Value.int IntKind.i64 0]) := ⟨Tryz.zeroValue244⟩
instance iU175 : UnC 175 (some Tryz.t174.desc) := ⟨Tryz.underlying175⟩
instance iS67 : SzC 67 3 := ⟨H0⟩
instance iA129 : AgC 129 false := ⟨Tryz.isAgg129⟩
instance iU35 : UnC 35 (some Tryz.t35.desc) := ⟨D7⟩
instance iA105 : AgC 105 true := ⟨Tryz.isAgg105⟩
instance iU244 : UnC 244 (some Tryz.t243.desc) := ⟨Tryz.underlying244⟩
instance iZ61 : ZvC 61 (Value.agg #[Value.string (ByteArray.mk #[]), E4]) := ⟨Tryz.zeroValue61⟩
instance iA27 : AgC 27 false := ⟨Tryz.isAgg27⟩
instance iA99 : AgC 99 false := ⟨Tryz.isAgg99⟩
instance iU100 : UnC 100 (some Tryz.t100.desc) := ⟨P0⟩
instance iS9 : SzC 9 1 := ⟨I2⟩
instance iS30 : SzC 30 1 := ⟨Tryz.sizeOf30⟩
instance iA55 : AgC 55 false := ⟨Tryz.isAgg55⟩
instance iA61 : AgC 61 true := ⟨Tryz.isAgg61⟩
instance iA170 : AgC 170 true := ⟨z8⟩
instance iS56 : SzC 56 1 := ⟨Tryz.sizeOf56⟩
instance iS228 : SzC 228 2 := ⟨Tryz.sizeOf228⟩
instance iA78 : AgC 78 true := ⟨Tryz.isAgg78⟩
instance iU79 : UnC 79 (some Tryz.t79.desc) := ⟨G6⟩
instance iZ32 : ZvC 32 (Value.agg #[Value.int IntKind.i64 0, Value.int IntKind.i64 0, E4, E4, E4, E4, E4, E4, E4]) := ⟨Tryz.zeroValue32⟩
instance iA4 : AgC 4 false := ⟨AG0⟩
instance iS58 : SzC 58 4 := ⟨L0⟩
instance iS61 : SzC 61 2 := ⟨I1⟩
instance iS29 : SzC 29 1 := ⟨AV6⟩
instance iU30 : UnC 30 (some Tryz.t30.desc) := ⟨AA0⟩
instance iA26 : AgC 26 false := ⟨Tryz.isAgg26⟩
instance iU32 : UnC 32 (some Tryz.t31.desc) := ⟨V6⟩
instance iS97 : SzC 97 1 := ⟨m2⟩
instance iA81 : AgC 81 true := ⟨O4⟩
instance iU239 : UnC 239 (some Tryz.t238.desc) := ⟨Tryz.underlying239⟩
instance iZ48 : ZvC 48 (Value.agg #[E4, Value.int IntKind.i64 0, Value.int IntKind.u64 0]) := ⟨Tryz.zeroValue48⟩
instance iS24 : SzC 24 1 := ⟨Tryz.sizeOf24⟩
instance iU173 : UnC 173 (some Tryz.t173.desc) := ⟨AG7⟩
instance iU102 : UnC 102 (some Tryz.t101.desc) := ⟨J4⟩
instance iS239 : SzC 239 5 := ⟨M2⟩
instance iU131 : UnC 131 (some Tryz.t130.desc) := ⟨r9⟩
instance iS54 : SzC 54 1 := ⟨Tryz.sizeOf54⟩
instance iU27 : UnC 27 (some Tryz.t27.desc) := ⟨T1⟩
instance iU125 : UnC 125 (some Tryz.t125.desc) := ⟨Tryz.underlying125⟩
instance iZ139 : ZvC 139 (Value.agg #[Value.string (ByteArray.mk #[]), Value.int IntKind.i64 0, Value.bool false]) := ⟨Tryz.zeroValue139⟩
instance iU26 : UnC 26 (some Tryz.t26.desc) := ⟨G7⟩
instance iS183 : SzC 183 4 := ⟨Y2⟩
instance iU99 : UnC 99 (some Tryz.t99.desc) := ⟨V7⟩
instance iS64 : SzC 64 3 := ⟨n8⟩
instance iU78 : UnC 78 (some Tryz.t77.desc) := ⟨Tryz.underlying78⟩
instance iZ99 : ZvC 99 (E4) := ⟨Tryz.zeroValue99⟩
instance iA9 : AgC 9 false := ⟨j4⟩
instance iA28 : AgC 28 false := ⟨Tryz.isAgg28⟩
instance iS26 : SzC 26 1 := ⟨Tryz.sizeOf26⟩
instance iA25 : AgC 25 false := ⟨Tryz.isAgg25⟩
instance iU48 : UnC 48 (some Tryz.t47.desc) := ⟨Tryz.underlying48⟩
instance iZ170 : ZvC 170 (Value.agg #[Value.int IntKind.i64 0, Value.int IntKind.i64 0, Value.int IntKind.i64 0]) := ⟨Tryz.zeroValue170⟩
instance iU228 : UnC 228 (some Tryz.t227.desc) := ⟨Tryz.underlying228⟩
instance iA67 : AgC 67 true := ⟨Tryz.isAgg67⟩
instance iU122 : UnC 122 (some Tryz.t122.desc) := ⟨s0⟩
instance iS129 : SzC 129 1 := ⟨Tryz.sizeOf129⟩
instance iA100 : AgC 100 false := ⟨AC8⟩
instance iS32 : SzC 32 9 := ⟨O2⟩
instance iA3 : AgC 3 false := ⟨Q8⟩
instance iZ105 : ZvC 105 (Value.agg #[Value.int IntKind.i64 0, E4, E4, Value.int IntKind.i64 0, Value.int IntKind.i64 0, Value.int IntKind.i64 0]) := ⟨Tryz.zeroValue105⟩
instance iZ177 : ZvC 177 (Value.agg #[Value.int IntKind.i64 0, Value.int IntKind.i64 0, Value.int IntKind.i64 0, Value.int IntKind.i64 0, Value.int IntKind.i64 0, E4, E4, Value.bool false]) := ⟨Tryz.zeroValue177⟩
instance iZ67 : ZvC 67 (Value.agg #[Value.string (ByteArray.mk #[]), Value.string (ByteArray.mk #[]), Value.bool false]) := ⟨Tryz.zeroValue67⟩
instance iP32 : PlC 32 #[(0, 1), (1, 1), (2, 1), (3, 1), (4, 1), (5, 1), (6, 1), (7, 1), (8, 1)] := ⟨_, V6, fun w => by kernel_rfl⟩
instance iP48 : PlC 48 #[(0, 1), (1, 1), (2, 1)] := ⟨_, Tryz.underlying48, fun w => by kernel_rfl⟩
instance iP58 : PlC 58 #[(0, 1), (1, 1), (2, 1), (3, 1)] := ⟨_, d8, fun w => by kernel_rfl⟩
instance iP61 : PlC 61 #[(0, 1), (1, 1)] := ⟨_, V4, fun w => by kernel_rfl⟩
instance iP64 : PlC 64 #[(0, 1), (1, 1), (2, 1)] := ⟨_, Tryz.underlying64, fun w => by kernel_rfl⟩
instance iP67 : PlC 67 #[(0, 1), (1, 1), (2, 1)] := ⟨_, Tryz.underlying67, fun w => by kernel_rfl⟩
instance iP78 : PlC 78 #[(0, 1)] := ⟨_, Tryz.underlying78, fun w => by kernel_rfl⟩
instance iP81 : PlC 81 #[(0, 1), (1, 1), (2, 1)] := ⟨_, W5, fun w => by kernel_rfl⟩
instance iP105 : PlC 105 #[(0, 1), (1, 1), (2, 1), (3, 1), (4, 1), (5, 1)] := ⟨_, O1, fun w => by kernel_rfl⟩
instance iP131 : PlC 131 #[(0, 1), (1, 1), (2, 1)] := ⟨_, r9, fun w => by kernel_rfl⟩
instance iP139 : PlC 139 #[(0, 1), (1, 1), (2, 1)] := ⟨_, Tryz.underlying139, fun w => by kernel_rfl⟩
instance iP145 : PlC 145 #[(0, 1), (1, 1), (2, 1)] := ⟨_, Tryz.underlying145, fun w => by kernel_rfl⟩
instance iP170 : PlC 170 #[(0, 1), (1, 1), (2, 1)] := ⟨_, Tryz.underlying170, fun w => by kernel_rfl⟩
instance iP175 : PlC 175 #[(0, 1), (1, 1), (2, 1), (3, 1), (4, 1), (5, 1), (6, 1)] := ⟨_, Tryz.underlying175, fun w => by kernel_rfl⟩
instance iP177 : PlC 177 #[(0, 1), (1, 7)] := ⟨_, Tryz.underlying177, fun w => by kernel_rfl⟩
instance iP183 : PlC 183 #[(0, 1), (1, 1), (2, 1), (3, 1)] := ⟨_, Tryz.underlying183, fun w => by kernel_rfl⟩
instance iP197 : PlC 197 #[(0, 9)] := ⟨_, Tryz.underlying197, fun w => by kernel_rfl⟩
instance iP228 : PlC 228 #[(0, 1), (1, 1)] := ⟨_, Tryz.underlying228, fun w => by kernel_rfl⟩
instance iP239 : PlC 239 #[(0, 1), (1, 1), (2, 1), (3, 1), (4, 1)] := ⟨_, Tryz.underlying239, fun w => by kernel_rfl⟩
instance iP244 : PlC 244 #[(0, 1), (1, 1), (2, 1)] := ⟨_, Tryz.underlying244, fun w => by kernel_rfl⟩
theorem omA {p : Prop} (h : p := by first | omega | ((try simp only [CS5, V8, szR] at *); omega) | (have hc2 := hc; simp only [bolZs, j0, BA6, A7, F4] at hc2; omega)) : p := h
theorem fsl {fs : Array Field} {k : Nat} {fd : Field} (h : fs.toList[k]? = some fd) : fs[k]? = some fd := by rw [← h]; simp
section
variable {P : Program} {G : Nat → Prop} {n : Nat}
theorem w_fldB2 {own : List Own} {o : Oper} {E : N7} {t : TypeId} {p : Operand} {b off : Nat} {fs : Array Field} {fd : Field} {k j : Nat} (m : Nat) (ho : o.op = .fieldAddr t p k) (ht : P.underlying t = some (.struct fs)) (hk : fs.toList[k]? = some fd) (hs : ∀ w, (sizeOf fd.type).run P w = .ok (j + 1) w)
    (hp : Ev E p (AV.ptr b off)) (hm : off + fd.offset = m) : OpW P G n own o E (AV.ptr b m) := BM0 m ho ht (fsl hk) hs hp hm
theorem w_fldE2 {own : List Own} {o : Oper} {E : N7} {t : TypeId} {p : Operand} {fs : Array Field} {fd : Field} {k m : Nat} {xs ys : List AV} (ho : o.op = .fieldAddr t p k) (ht : P.underlying t = some (.struct fs)) (hk : fs.toList[k]? = some fd) (hs : ∀ w, (sizeOf fd.type).run P w = .ok (m + 1) w)
    (hp : Ev E p (AV.eptr xs)) (hy : xs.drop fd.offset = ys) : OpW P G n own o E (AV.eptr ys) := w_fldE ho ht (fsl hk) hs hp hy
theorem w_build2 {own : List Own} {o : Oper} {E : N7} {t : TypeId} {z : Value} {ps : Array (Nat × Operand)} {asl : List (Nat × List AV)} {places : Array (Nat × Nat)} {cs : List AV} (ho : o.op = .build t ps) (hz : ∀ w, (zeroValue t).run P w = .ok z w)
    (hpl : ∃ fs, P.underlying t = some (.struct fs) ∧ ∀ w, (fs.mapM (m := Sem) fun f => do pure (f.offset, ← sizeOf f.type)).run P w = .ok places w) (h1' : z.cells.toList.all Value.oneCell' = true) (hp : EvP E ps.toList asl) (hc : AY5 (places[·]?) (z.cells.toList.map j3) asl = some cs) :
    OpW P G n own o E (AV.agg cs) := by
  obtain ⟨fs, h1, h2⟩ := hpl;exact Y6 ho h1 hz h2 h1' hp hc
theorem gSq {B : Prop} {ops : Array Oper} {l : List Oper} {s : H2} {K : H2 → Prop} (h : B → Q5 P G n ops l s K) : B → Q5 P G n ops l s K := h
theorem gCh {B : Prop} {own : List Own} {ops : Array Oper} {l : List Oper} {e : List (Nat × AV)} {K : List (Nat × AV) → Prop} (h : B → AZ0 P G n own ops l e K) : B → AZ0 P G n own ops l e K := h
theorem gBc {B : Prop} {I : List Own → Prop} {ops : Array Oper} {l : List (Nat × Bool)} {e : List (Nat × AV)} {W : List Own} {K : List (Nat × AV) → List Own → Prop} (h : B → BCh P G n I ops l e W K) : B → BCh P G n I ops l e W K := h
theorem gBt {B : Prop} {I : List Own → Prop} {ops : Array Oper} {l : OT} {e : List (Nat × AV)} {W : List Own} {K : List (Nat × AV) → List Own → Prop} (h : B → BT P G n I ops l e W K) : B → BT P G n I ops l e W K := h
theorem gB3 {B : Prop} {I : List Own → Prop} {ops : Array Oper} {l : OT3} {e : List (Nat × AV)} {W : List Own} {K : List (Nat × AV) → List Own → Prop} (h : B → BT3 P G n I ops l e W K) : B → BT3 P G n I ops l e W K := h
end
theorem ix0 {α : Type} {l : List α} {x : α} (h : l[0]? = some x) : l[0]? = some x := h
theorem ix1 {α : Type} {l : List α} {x : α} (h : l[1]? = some x) : l[1]? = some x := h
theorem ix2 {α : Type} {l : List α} {x : α} (h : l[2]? = some x) : l[2]? = some x := h
theorem ix3 {α : Type} {l : List α} {x : α} (h : l[3]? = some x) : l[3]? = some x := h
theorem ix4 {α : Type} {l : List α} {x : α} (h : l[4]? = some x) : l[4]? = some x := h
theorem ix5 {α : Type} {l : List α} {x : α} (h : l[5]? = some x) : l[5]? = some x := h
theorem ix6 {α : Type} {l : List α} {x : α} (h : l[6]? = some x) : l[6]? = some x := h
theorem ix7 {α : Type} {l : List α} {x : α} (h : l[7]? = some x) : l[7]? = some x := h
theorem ix8 {α : Type} {l : List α} {x : α} (h : l[8]? = some x) : l[8]? = some x := h
theorem ix9 {α : Type} {l : List α} {x : α} (h : l[9]? = some x) : l[9]? = some x := h
theorem ix10 {α : Type} {l : List α} {x : α} (h : l[10]? = some x) : l[10]? = some x := h
theorem ix11 {α : Type} {l : List α} {x : α} (h : l[11]? = some x) : l[11]? = some x := h
theorem ix12 {α : Type} {l : List α} {x : α} (h : l[12]? = some x) : l[12]? = some x := h
theorem ix13 {α : Type} {l : List α} {x : α} (h : l[13]? = some x) : l[13]? = some x := h
theorem ix14 {α : Type} {l : List α} {x : α} (h : l[14]? = some x) : l[14]? = some x := h
theorem ix15 {α : Type} {l : List α} {x : α} (h : l[15]? = some x) : l[15]? = some x := h
theorem ixA {p : Prop} (h : p := by 
  first
  | (apply ix0; apply Eq.refl)
  | (apply ix1; apply Eq.refl)
  | (apply ix2; apply Eq.refl)
  | (apply ix3; apply Eq.refl)
  | (apply ix4; apply Eq.refl)
  | (apply ix5; apply Eq.refl)
  | (apply ix6; apply Eq.refl)
  | (apply ix7; apply Eq.refl)
  | (apply ix8; apply Eq.refl)
  | (apply ix9; apply Eq.refl)
  | (apply ix10; apply Eq.refl)
  | (apply ix11; apply Eq.refl)
  | (apply ix12; apply Eq.refl)
  | (apply ix13; apply Eq.refl)
  | (apply ix14; apply Eq.refl)
  | (apply ix15; apply Eq.refl)) : p := h
theorem evA {p : Prop} (h : p := by 
  first
  | (apply A9; apply Eq.refl; exact hc)
  | (apply A9; apply Eq.refl; exact (and_l hc))
  | (apply A0; apply Eq.refl)
  | apply L1
  | apply Af6) : p := h
theorem eiA {p : Prop} (h : p := by 
  first
  | (apply evif_w; apply Eq.refl)
  | (apply evif_w2; apply Eq.refl; exact hc)
  | (apply evif; exact evA)) : p := h
theorem asA {p : Prop} (h : p := by 
  first
  | apply Z2
  | apply W4
  | apply Af8
  | apply q8
  | apply g8) : p := h
theorem bpA {p : Prop} (h : p := by (repeat (apply D8; exact evA; exact asA)); apply U1) : p := h
theorem gdA {p : Prop} (h : p := by 
  first
  | (apply V1; apply Eq.refl; apply Eq.refl; apply Eq.refl)
  | (apply Y4; apply Eq.refl; apply Eq.refl; apply Eq.refl)
  | (apply X4; apply Eq.refl; apply Eq.refl; apply Eq.refl)
  | (apply BQ0; apply Eq.refl; apply Eq.refl; apply Eq.refl)) : p := h
theorem nm0 {x : Nat} (h : x = 0) : x = 0 := h
theorem nm1 {x : Nat} (h : x = 1) : x = 1 := h
theorem nm2 {x : Nat} (h : x = 2) : x = 2 := h
theorem nm3 {x : Nat} (h : x = 3) : x = 3 := h
theorem nm4 {x : Nat} (h : x = 4) : x = 4 := h
theorem nm5 {x : Nat} (h : x = 5) : x = 5 := h
theorem nm6 {x : Nat} (h : x = 6) : x = 6 := h
theorem nm7 {x : Nat} (h : x = 7) : x = 7 := h
theorem nm8 {x : Nat} (h : x = 8) : x = 8 := h
theorem nm9 {x : Nat} (h : x = 9) : x = 9 := h
theorem nm10 {x : Nat} (h : x = 10) : x = 10 := h
theorem nm11 {x : Nat} (h : x = 11) : x = 11 := h
theorem nm12 {x : Nat} (h : x = 12) : x = 12 := h
theorem nm13 {x : Nat} (h : x = 13) : x = 13 := h
theorem nm14 {x : Nat} (h : x = 14) : x = 14 := h
theorem nm15 {x : Nat} (h : x = 15) : x = 15 := h
theorem nm16 {x : Nat} (h : x = 16) : x = 16 := h
theorem nm17 {x : Nat} (h : x = 17) : x = 17 := h
theorem nm18 {x : Nat} (h : x = 18) : x = 18 := h
theorem nm19 {x : Nat} (h : x = 19) : x = 19 := h
theorem nm20 {x : Nat} (h : x = 20) : x = 20 := h
theorem nm21 {x : Nat} (h : x = 21) : x = 21 := h
theorem nm22 {x : Nat} (h : x = 22) : x = 22 := h
theorem nm23 {x : Nat} (h : x = 23) : x = 23 := h
theorem nm24 {x : Nat} (h : x = 24) : x = 24 := h
theorem nm25 {x : Nat} (h : x = 25) : x = 25 := h
theorem nm26 {x : Nat} (h : x = 26) : x = 26 := h
theorem nm27 {x : Nat} (h : x = 27) : x = 27 := h
theorem nm28 {x : Nat} (h : x = 28) : x = 28 := h
theorem nm29 {x : Nat} (h : x = 29) : x = 29 := h
theorem nm30 {x : Nat} (h : x = 30) : x = 30 := h
theorem nm31 {x : Nat} (h : x = 31) : x = 31 := h
theorem nm32 {x : Nat} (h : x = 32) : x = 32 := h
theorem nmA {p : Prop} (h : p := by 
  first
  | (apply nm0; apply Eq.refl)
  | (apply nm1; apply Eq.refl)
  | (apply nm2; apply Eq.refl)
  | (apply nm3; apply Eq.refl)
  | (apply nm4; apply Eq.refl)
  | (apply nm5; apply Eq.refl)
  | (apply nm6; apply Eq.refl)
  | (apply nm7; apply Eq.refl)
  | (apply nm8; apply Eq.refl)
  | (apply nm9; apply Eq.refl)
  | (apply nm10; apply Eq.refl)
  | (apply nm11; apply Eq.refl)
  | (apply nm12; apply Eq.refl)
  | (apply nm13; apply Eq.refl)
  | (apply nm14; apply Eq.refl)
  | (apply nm15; apply Eq.refl)
  | (apply nm16; apply Eq.refl)
  | (apply nm17; apply Eq.refl)
  | (apply nm18; apply Eq.refl)
  | (apply nm19; apply Eq.refl)
  | (apply nm20; apply Eq.refl)
  | (apply nm21; apply Eq.refl)
  | (apply nm22; apply Eq.refl)
  | (apply nm23; apply Eq.refl)
  | (apply nm24; apply Eq.refl)
  | (apply nm25; apply Eq.refl)
  | (apply nm26; apply Eq.refl)
  | (apply nm27; apply Eq.refl)
  | (apply nm28; apply Eq.refl)
  | (apply nm29; apply Eq.refl)
  | (apply nm30; apply Eq.refl)
  | (apply nm31; apply Eq.refl)
  | (apply nm32; apply Eq.refl)) : p := h
theorem vA {p : Prop} (h : p := by 
  first
  | (apply w_move; apply Eq.refl; exact evA)
  | (apply G1; apply Eq.refl; exact evA)
  | (apply w_fldB2; apply Eq.refl; exact unL; apply Eq.refl; exact szL; exact evA; exact nmA)
  | (apply BC8; apply Eq.refl; exact evA; exact ixA; exact agL; apply Eq.refl)
  | (apply Cn2; apply Eq.refl; exact evA; exact ixA; exact agL; exact szL; apply Eq.refl)
  | (apply w_llen; apply Eq.refl; exact unL; exact evA)
  | (apply Cz1; apply Eq.refl; exact evA; apply Eq.refl)
  | (apply w_not; apply Eq.refl; exact evA)
  | (apply w_loadE1; apply Eq.refl; exact evA; exact agL; apply Eq.refl)
  | (apply w_loadE; apply Eq.refl; exact evA; exact agL; exact szL)
  | (apply w_fldE2; apply Eq.refl; exact unL; apply Eq.refl; exact szL; exact evA; apply Eq.refl)
  | (apply w_nilB; apply Eq.refl; exact evA)
  | (apply CS6; apply Eq.refl; exact evA; exact eiA)
  | (apply w_or; apply Eq.refl; exact evA; exact eiA)
  | (apply w_lss; apply Eq.refl; exact evA; exact evA)
  | (apply w_eql; apply Eq.refl; exact evA; exact evA)
  | (apply BX1; apply Eq.refl; exact evA; exact evA; exact omA)
  | (apply CU2; apply Eq.refl; exact evA; exact evA; exact omA)
  | (apply w_gtr; apply Eq.refl; exact evA; exact evA)
  | (apply w_leq; apply Eq.refl; exact evA; exact evA)
  | (apply w_geq; apply Eq.refl; exact evA; exact evA)
  | (apply w_neq; apply Eq.refl; exact evA; exact evA)
  | (apply Ac0; apply Eq.refl; exact evA; exact evA)
  | (apply CU4; apply Eq.refl; exact evA; exact evA)
  | (apply w_alen; apply Eq.refl; exact unL; exact evA; exact ixA)
  | (apply w_slen; apply Eq.refl; exact unL; exact evA)
  | (apply w_build2; apply Eq.refl; exact zvL; exact plL; apply Eq.refl; exact bpA; apply Eq.refl)
  | (apply Ar1; apply Eq.refl; exact unL; exact szL; exact zvL; apply Eq.refl; apply Eq.refl; apply Eq.refl; apply Eq.refl; exact bpA; apply Eq.refl; apply Eq.refl)) : p := h
theorem s1 {A B : Prop} (h : B → A := by
 first
 | ((with_reducible apply gSq); first | (apply BQ1; apply Eq.refl; apply Eq.refl; apply Eq.refl; exact vA) | apply sq_nil | (apply s9; apply Eq.refl; apply Eq.refl; exact gdA; exact (fun hc => vA)) | (apply Cr4; apply Eq.refl; apply Eq.refl; apply Eq.refl; exact evA; exact evA; exact asA; exact ixA; exact szL; apply Eq.refl) | (apply N0; apply Eq.refl; apply Eq.refl; apply Eq.refl; exact evA; exact evA; exact asA; exact ixA; exact szL; apply Eq.refl) | (apply sq_alloc; apply Eq.refl; apply Eq.refl; apply Eq.refl; apply Eq.refl; exact zvL; apply Eq.refl) | (apply sq_box; apply Eq.refl; apply Eq.refl; apply Eq.refl; apply Eq.refl; exact evA))
 | ((with_reducible apply gCh); first | (apply C0; apply Eq.refl; apply Eq.refl; exact vA) | apply ch_nil | (apply Q4; apply Eq.refl; exact gdA; exact (fun hc => vA)))
 | ((with_reducible apply gBc); first | (apply P4; apply Eq.refl; apply Eq.refl; apply Eq.refl; exact (fun ext => vA)) | apply bc_nil)
 | ((with_reducible apply gBt); first | (apply K9; apply Eq.refl; apply Eq.refl; apply Eq.refl; exact (fun ext => vA)) | apply bt_nil | apply bt_e1)
 | ((with_reducible apply gB3); first | (apply AR0; apply Eq.refl; apply Eq.refl; apply Eq.refl; exact (fun ext => vA)) | apply bt3_nil | apply bt3_e1)
 | apply awp_seq
 | apply Cq9
 | apply Cz0
 | apply awp_skip
 | apply awp_ret
 | apply awp_exit
 | (apply CB4; kernel_rfl; kernel_rfl; apply Eq.refl)) : B → A := h
theorem s2 {A B C : Prop} (g : B → A) (f : C → B) : C → A := fun c => g (f c)
theorem t1 {A B : Prop} (h : B → A := by exact s1) : B → A := h
theorem t2 {A B : Prop} (h : B → A := by exact s2 t1 t1) : B → A := h
theorem t4 {A B : Prop} (h : B → A := by exact s2 t2 t2) : B → A := h
theorem t8 {A B : Prop} (h : B → A := by exact s2 t4 t4) : B → A := h
theorem t16 {A B : Prop} (h : B → A := by exact s2 t8 t8) : B → A := h
theorem t32 {A B : Prop} (h : B → A := by exact s2 t16 t16) : B → A := h
theorem R1 {A B : Prop} (k : B) (h : B → A := by exact t1) : A := h k
theorem R2 {A B : Prop} (k : B) (h : B → A := by exact t2) : A := h k
theorem R3 {A B : Prop} (k : B) (h : B → A := by exact s2 t2 t1) : A := h k
theorem R4 {A B : Prop} (k : B) (h : B → A := by exact t4) : A := h k
theorem R5 {A B : Prop} (k : B) (h : B → A := by exact s2 t4 t1) : A := h k
theorem R6 {A B : Prop} (k : B) (h : B → A := by exact s2 t4 t2) : A := h k
theorem R7 {A B : Prop} (k : B) (h : B → A := by exact s2 t4 (s2 t2 t1)) : A := h k
theorem R8 {A B : Prop} (k : B) (h : B → A := by exact t8) : A := h k
theorem R9 {A B : Prop} (k : B) (h : B → A := by exact s2 t8 t1) : A := h k
theorem R10 {A B : Prop} (k : B) (h : B → A := by exact s2 t8 t2) : A := h k
theorem R11 {A B : Prop} (k : B) (h : B → A := by exact s2 t8 (s2 t2 t1)) : A := h k
theorem R12 {A B : Prop} (k : B) (h : B → A := by exact s2 t8 t4) : A := h k
theorem R13 {A B : Prop} (k : B) (h : B → A := by exact s2 t8 (s2 t4 t1)) : A := h k
theorem R14 {A B : Prop} (k : B) (h : B → A := by exact s2 t8 (s2 t4 t2)) : A := h k
theorem R15 {A B : Prop} (k : B) (h : B → A := by exact s2 t8 (s2 t4 (s2 t2 t1))) : A := h k
theorem R16 {A B : Prop} (k : B) (h : B → A := by exact t16) : A := h k
theorem R17 {A B : Prop} (k : B) (h : B → A := by exact s2 t16 t1) : A := h k
theorem R18 {A B : Prop} (k : B) (h : B → A := by exact s2 t16 t2) : A := h k
theorem R19 {A B : Prop} (k : B) (h : B → A := by exact s2 t16 (s2 t2 t1)) : A := h k
theorem R20 {A B : Prop} (k : B) (h : B → A := by exact s2 t16 t4) : A := h k
theorem R22 {A B : Prop} (k : B) (h : B → A := by exact s2 t16 (s2 t4 t2)) : A := h k
theorem R23 {A B : Prop} (k : B) (h : B → A := by exact s2 t16 (s2 t4 (s2 t2 t1))) : A := h k
theorem R24 {A B : Prop} (k : B) (h : B → A := by exact s2 t16 t8) : A := h k
theorem R27 {A B : Prop} (k : B) (h : B → A := by exact s2 t16 (s2 t8 (s2 t2 t1))) : A := h k
theorem R28 {A B : Prop} (k : B) (h : B → A := by exact s2 t16 (s2 t8 t4)) : A := h k
theorem R33 {A B : Prop} (k : B) (h : B → A := by exact s2 t32 t1) : A := h k
theorem R36 {A B : Prop} (k : B) (h : B → A := by exact s2 t32 t4) : A := h k
end Go.AV
namespace Go.M
open Go.AV
abbrev Str := List UInt8
@[reducible] def strs (l : List Str) : AV := AV.list 1 (l.map fun s => [AV.str s])
@[reducible] def ints (l : List Int) : AV := AV.list 1 (l.map fun s => [AV.int s])
def C7 {α : Type} (f : α → Nat) (l : List α) : Nat := l.length + (l.map f).sum
def szR (n : Nat) (left : Int) : Int := if left < n then -1 else left - n
theorem sum_le {α : Type} (f : α → Nat) : ∀ (l : List α) (i : Nat) (x : α), l[i]? = some x → ((l.take i).map f).sum + f x ≤ (l.map f).sum
  | [], i, x, h => by simp at h
  | y :: l, 0, x, h => by simp at h; subst h; simp
  | y :: l, i + 1, x, h => by
    have := sum_le f l i x AO9;simp only [Aj4, U8, List.sum_cons]; omega
theorem Al3 {α : Type} {f : α → Nat} {l : List α} {x : α} (h : x ∈ l) : f x ≤ C7 f l := by
  obtain ⟨i, hi⟩ := X9 h;have := sum_le f l i x hi;unfold C7; omega
theorem L9 {α : Type} {f : α → Nat} {l : List α} : l.length ≤ C7 f l := by unfold C7; omega
theorem U6 {α : Type} {f : α → Nat} {l : List α} {i : Nat} {x : α} (h : l[i]? = some x) : f x ≤ C7 f l := Al3 (C2 h)
theorem Cs2 {α : Type} {a b : List α} {i : Nat} (hl : a.length = b.length) (h : a.take i = b.take i) (hi : a.length ≤ i) : a = b := by
  rwa [P8 hi, P8 qz8] at h
theorem CW6 {α : Type} {a b : List α} {i : Nat} {x : α} (h : a.take i = b.take i) (ha : a[i]? = some x) (hb : b[i]? = some x) : a.take (i + 1) = b.take (i + 1) := by
  rw [T5, T5, h, ha, hb]
theorem BB6 {α : Type} [Inhabited α] (l : List α) (i : Nat) : ∃ y, i < l.length → l[i]? = some y := ⟨l[i]?.getD default, fun h => by rw [N6 h]; rfl⟩
theorem del_keep {α : Type} {p : α → Bool} {l m : List α} {i j : Nat} {x : α} (hm : m.length = l.length) (hij : i ≤ j) (hx : l[j]? = some x) (h1 : m.take i = (l.take j).filter p) (h2 : m.drop j = l.drop j) (hp : p x = true) : (m.set i x).take (i + 1) = (l.take (j + 1)).filter p ∧ (m.set i x).drop (j + 1) = l.drop (j + 1) ∧ (m.set i x).length = l.length := by
  have hj : j < l.length := (E9.1 hx).1;refine ⟨?_, ?_, by simp [hm]⟩
  · rw [T5, T5, hx, List.filter_append, ← h1, List.take_set_of_le (K5 _), AO3 qz8]
    simp [hp]
  · rw [List.drop_set_of_lt qz8]
    have := C3 (List.drop 1) h2;simpa [List.drop_drop] using this
theorem del_skip {α : Type} {p : α → Bool} {l m : List α} {i j : Nat} {x : α} (hx : l[j]? = some x) (h1 : m.take i = (l.take j).filter p) (h2 : m.drop j = l.drop j) (hp : p x = false) : m.take i = (l.take (j + 1)).filter p ∧ m.drop (j + 1) = l.drop (j + 1) := by
  refine ⟨?_, ?_⟩
  · rw [T5, hx, List.filter_append, ← h1]; simp [hp]
  · have := C3 (List.drop 1) h2
    simpa [List.drop_drop] using this
def bs {α : Type} (f : α → Int) (l : List α) (i j : Nat) : Nat :=
  if i < j then
    match l[(i + j) / 2]? with
    | some x => if f x < 0 then bs f l ((i + j) / 2 + 1) j else bs f l i ((i + j) / 2)
    | none => i
  else i
termination_by j - i
def Ae6 {α : Type} (f : α → Int) (l : List α) (n : Nat) : Bool :=
  match l[n]? with
  | some x => f x == 0
  | none => false
theorem bs_lo {α : Type} {f : α → Int} {l : List α} {i j : Nat} {x : α} (h : i < j) (hx : l[(i + j) / 2]? = some x) (hf : f x < 0) : bs f l i j = bs f l ((i + j) / 2 + 1) j := by
  rw [bs, D0 h, hx]; simp only [hf, if_true]
theorem bs_hi {α : Type} {f : α → Int} {l : List α} {i j : Nat} {x : α} (h : i < j) (hx : l[(i + j) / 2]? = some x) (hf : ¬ f x < 0) : bs f l i j = bs f l i ((i + j) / 2) := by
  rw [bs, D0 h, hx]; simp only [hf, if_false]
theorem CW7 {α : Type} {f : α → Int} {l : List α} {i j : Nat} (h : ¬ i < j) : bs f l i j = i := by rw [bs, C6 h]
theorem half_eq {i j : Nat} (h : i + j ≤ 9223372036854775807) : IntKind.i64.wrap (IntKind.u64.wrap ((i : Int) + (j : Int)) / 2 ^ ((1 : Int).toNat)) = ((i + j) / 2 : Nat) := by
  have h1 : IntKind.u64.wrap ((i : Int) + (j : Int)) = (i : Int) + (j : Int) := by simp only [IntKind.wrap, IntKind.bits, IntKind.signed]; simp; omega
  rw [h1];have h2 : ((i : Int) + (j : Int)) / 2 ^ ((1 : Int).toNat) = (((i + j) / 2 : Nat) : Int) := by
    show ((i : Int) + (j : Int)) / 2 = _
    omega
  rw [h2];exact BC7 qz8
def idxFrom {α : Type} (p : α → Bool) : List α → Int → Int
  | [], _ => -1
  | x :: xs, k => if p x then k else idxFrom p xs (k + 1)
theorem BK2 {α : Type} (p : α → Bool) : ∀ (l : List α) (k : Int), 0 ≤ k → decide (0 ≤ idxFrom p l k) = l.any p
  | [], _, _ => rfl
  | x :: xs, k, h => by
    unfold idxFrom
    cases hp : p x with
    | true => simp [hp]; exact h
    | false => simp [hp, BK2 p xs (k + 1) qz8]
theorem BD2 {α : Type} (f : α → Bool) : ∀ (l : List α) (k : Nat), (idxFrom f l k = -1 ∧ l.filter (fun x => !f x) = l) ∨ ∃ n x, idxFrom f l k = ((k + n : Nat) : Int) ∧ l[n]? = some x ∧ l.take n = (l.take (n + 1)).filter (fun x => !f x)
  | [], k => .inl ⟨rfl, rfl⟩
  | x :: l, k => by
    unfold idxFrom
    cases hf : f x with
    | true => exact .inr ⟨0, x, by simp, rfl, by simp [hf]⟩
    | false =>
      have hk : (k : Int) + 1 = ((k + 1 : Nat) : Int) := by omega
      rw [hk];rcases BD2 f l (k + 1) with ⟨h1, h2⟩ | ⟨n, y, h1, h2, h3⟩
      · exact .inl ⟨by simpa using h1, by simp [hf, h2]⟩
      · refine .inr ⟨n + 1, y, ?_, by simpa using h2, ?_⟩
        · simp only [Bool.false_eq_true, if_false, h1]; omega
        · rw [Aj4, Aj4, List.filter_cons, hf]
          simp only [Bool.not_false, if_true, ← h3]
theorem ins_grow {α β : Type} {f : α → β} {l : List α} {x : α} {i : Nat} {Z : List β} (hi : i ≤ l.length) (hZ : Z.length = l.length + 1 - i) : (l.take i ++ x :: l.drop i).map f =
    ((((l.map f).take i ++ Z).take i ++ [f x] ++ ((l.map f).take i ++ Z).drop (i + [f x].length)).take (i + 1) ++ (l.map f).drop i ++ (((l.map f).take i ++ Z).take i ++ [f x] ++ ((l.map f).take i ++ Z).drop (i + [f x].length)).drop (i + 1 + ((l.map f).drop i).length)) := by
  have h1 : ((l.map f).take i).length = i := by simp; omega
  have hA : ((l.map f).take i ++ Z).take i = (l.map f).take i := List.take_left' h1;have h2 : ((l.map f).take i ++ [f x]).length = i + 1 := by simp; omega
  rw [hA, List.take_left' h2];have hB : ((l.map f).take i ++ [f x] ++ ((l.map f).take i ++ Z).drop (i + [f x].length)).length ≤ i + 1 + ((l.map f).drop i).length := by
    simp only [H3, F4, A7, H8, Q1, p7, hZ]; omega
  rw [k6 hB];simp [List.map_take, List.map_drop]
theorem DA2 {α β : Type} {f : α → β} {l : List α} {x : α} {i : Nat} (hi : i < l.length) : (l.take i ++ x :: l.drop i).map f =
    ((l.map f).take (i + 1) ++ (l.map f).drop i).take i ++ [f x] ++ ((l.map f).take (i + 1) ++ (l.map f).drop i).drop (i + [f x].length) := by
  have h1 : ((l.map f).take (i + 1)).length = i + 1 := by simp; omega
  rw [List.take_append_of_le_length qz8, List.take_take, Nat.min_eq_left qz8, show i + [f x].length = i + 1 from rfl, List.drop_left' h1];simp [List.map_take, List.map_drop]
theorem Ch3 {α : Type} {m l : List α} {j : Nat} {x : α} (h : m.drop j = l.drop j) (hx : l[j]? = some x) : m[j]? = some x := by
  have h1 : (m.drop j)[0]? = (l.drop j)[0]? := by rw [h]
  simpa [hx] using h1
theorem del_end {α : Type} {p : α → Bool} {cs : α → List AV} {l m : List α} {i j k : Nat} {z : List AV} (h1 : m.take i = (l.take j).filter p) (h2 : l.length ≤ j) (h3 : i ≤ m.length) : ((m.map cs).take i ++ List.replicate k z).take i = (l.filter p).map cs := by
  rw [List.take_left' AB6, ← List.map_take, h1, P8 h2]
structure S9 where
  Off : Int
deriving DecidableEq, Inhabited
def S9.cs (c : S9) : List AV := [AV.int c.Off]
theorem S9.flat (c : S9) : ∀ x ∈ c.cs, Flat x := (H5 (d4 _ _) U5)
def S9.size (c : S9) : Nat := 0
structure A4 where
  Key : Str
  Val : Str
  Gone : Bool
deriving DecidableEq, Inhabited
def A4.cs (c : A4) : List AV := [AV.str c.Key, AV.str c.Val, AV.bool c.Gone]
theorem A4.flat (c : A4) : ∀ x ∈ c.cs, Flat x := (H5 (AE1 _) (H5 (AE1 _) (H5 (U0 _) U5)))
def A4.size (c : A4) : Nat := c.Key.length + c.Val.length
def A4.ok (c : A4) : Prop := c.Key.length ≤ 9223372036854775807 ∧ c.Val.length ≤ 9223372036854775807
structure M5 where
  Kind : Int
  Txn : Int
  Time : Int
  Lead : Int
  Reads : List Str
  Writes : List A4
  Yes : Bool
deriving DecidableEq, Inhabited
def M5.cs (c : M5) : List AV := [AV.int c.Kind, AV.int c.Txn, AV.int c.Time, AV.int c.Lead, strs c.Reads, AV.list 3 (c.Writes.map A4.cs), AV.bool c.Yes]
def M5.size (c : M5) : Nat := C7 (fun x => x.length) c.Reads + C7 A4.size c.Writes
def M5.ok (c : M5) : Prop := (∀ x ∈ c.Reads, x.length ≤ 9223372036854775807) ∧ (∀ x ∈ c.Writes, x.ok)
structure I5 where
  Term : Int
  Rec : M5
deriving DecidableEq, Inhabited
def I5.cs (c : I5) : List AV := [AV.int c.Term, AV.int c.Rec.Kind, AV.int c.Rec.Txn, AV.int c.Rec.Time, AV.int c.Rec.Lead, strs c.Rec.Reads, AV.list 3 (c.Rec.Writes.map A4.cs), AV.bool c.Rec.Yes]
def I5.size (c : I5) : Nat := c.Rec.size
def I5.ok (c : I5) : Prop := c.Rec.ok
structure E6 where
  Up : Bool
  Log : List I5
  Sure : Int
deriving DecidableEq, Inhabited
def E6.cs (c : E6) : List AV := [AV.bool c.Up, AV.list 8 (c.Log.map I5.cs), AV.int c.Sure]
def E6.size (c : E6) : Nat := C7 I5.size c.Log
def E6.ok (c : E6) : Prop := (∀ x ∈ c.Log, x.ok)
structure C4 where
  Reps : List E6
  Term : Int
  Lead : Int
deriving DecidableEq, Inhabited
def C4.cs (c : C4) : List AV := [AV.list 3 (c.Reps.map E6.cs), AV.int c.Term, AV.int c.Lead]
def C4.size (c : C4) : Nat := C7 E6.size c.Reps
def C4.ok (c : C4) : Prop := (∀ x ∈ c.Reps, x.ok)
structure G2 where
  Key : Str
  Txn : Int
  Write : Bool
deriving DecidableEq, Inhabited
def G2.cs (c : G2) : List AV := [AV.str c.Key, AV.int c.Txn, AV.bool c.Write]
theorem G2.flat (c : G2) : ∀ x ∈ c.cs, Flat x := (H5 (AE1 _) (H5 (d4 _ _) (H5 (U0 _) U5)))
def G2.size (c : G2) : Nat := c.Key.length
def G2.ok (c : G2) : Prop := c.Key.length ≤ 9223372036854775807
structure O3 where
  Time : Int
  Val : Str
  Gone : Bool
deriving DecidableEq, Inhabited
def O3.cs (c : O3) : List AV := [AV.int c.Time, AV.str c.Val, AV.bool c.Gone]
theorem O3.flat (c : O3) : ∀ x ∈ c.cs, Flat x := (H5 (d4 _ _) (H5 (AE1 _) (H5 (U0 _) U5)))
def O3.size (c : O3) : Nat := c.Val.length
def O3.ok (c : O3) : Prop := c.Val.length ≤ 9223372036854775807
structure B1 where
  Key : Str
  Vers : List O3
deriving DecidableEq, Inhabited
def B1.cs (c : B1) : List AV := [AV.str c.Key, AV.list 3 (c.Vers.map O3.cs)]
def B1.size (c : B1) : Nat := c.Key.length + C7 O3.size c.Vers
def B1.ok (c : B1) : Prop := c.Key.length ≤ 9223372036854775807 ∧ (∀ x ∈ c.Vers, x.ok)
structure D1 where
  Txn : Int
  Time : Int
  Lead : Int
  Reads : List Str
  Writes : List A4
deriving DecidableEq, Inhabited
def D1.cs (c : D1) : List AV := [AV.int c.Txn, AV.int c.Time, AV.int c.Lead, strs c.Reads, AV.list 3 (c.Writes.map A4.cs)]
def D1.size (c : D1) : Nat := C7 (fun x => x.length) c.Reads + C7 A4.size c.Writes
def D1.ok (c : D1) : Prop := (∀ x ∈ c.Reads, x.length ≤ 9223372036854775807) ∧ (∀ x ∈ c.Writes, x.ok)
structure N1 where
  Txn : Int
  Yes : Bool
  Time : Int
deriving DecidableEq, Inhabited
def N1.cs (c : N1) : List AV := [AV.int c.Txn, AV.bool c.Yes, AV.int c.Time]
theorem N1.flat (c : N1) : ∀ x ∈ c.cs, Flat x := (H5 (d4 _ _) (H5 (U0 _) (H5 (d4 _ _) U5)))
def N1.size (c : N1) : Nat := 0
structure D9 where
  Floor : Int
  Cells : List B1
  Held : List D1
  Told : List N1
deriving DecidableEq, Inhabited
def D9.cs (c : D9) : List AV := [AV.int c.Floor, AV.list 2 (c.Cells.map B1.cs), AV.list 5 (c.Held.map D1.cs), AV.list 3 (c.Told.map N1.cs)]
def D9.size (c : D9) : Nat := C7 B1.size c.Cells + C7 D1.size c.Held + c.Told.length
def D9.ok (c : D9) : Prop := (∀ x ∈ c.Cells, x.ok) ∧ (∀ x ∈ c.Held, x.ok)
structure Ao7 where
  Low : Int
  High : Int
deriving DecidableEq, Inhabited
def Ao7.cs (c : Ao7) : List AV := [AV.int c.Low, AV.int c.High]
theorem Ao7.flat (c : Ao7) : ∀ x ∈ c.cs, Flat x := (H5 (d4 _ _) (H5 (d4 _ _) U5))
def Ao7.size (c : Ao7) : Nat := 0
structure AZ1 where
  Txn : Int
  Reads : List Str
  Writes : List A4
deriving DecidableEq, Inhabited
def AZ1.cs (c : AZ1) : List AV := [AV.int c.Txn, strs c.Reads, AV.list 3 (c.Writes.map A4.cs)]
def AZ1.size (c : AZ1) : Nat := C7 (fun x => x.length) c.Reads + C7 A4.size c.Writes
def AZ1.ok (c : AZ1) : Prop := (∀ x ∈ c.Reads, x.length ≤ 9223372036854775807) ∧ (∀ x ∈ c.Writes, x.ok)
structure BI7 where
  Cuts : List Str
  States : List D9
  Orders : List AZ1
deriving DecidableEq, Inhabited
def BI7.cs (c : BI7) : List AV := [strs c.Cuts, AV.list 4 (c.States.map D9.cs), AV.list 3 (c.Orders.map AZ1.cs)]
def BI7.size (c : BI7) : Nat := C7 (fun x => x.length) c.Cuts + C7 D9.size c.States + C7 AZ1.size c.Orders
def BI7.ok (c : BI7) : Prop := (∀ x ∈ c.Cuts, x.length ≤ 9223372036854775807) ∧ (∀ x ∈ c.States, x.ok) ∧ (∀ x ∈ c.Orders, x.ok)
structure TOp where
  Kind : Int
  Key : Str
  Val : Str
  By : Int
deriving DecidableEq, Inhabited
def TOp.cs (c : TOp) : List AV := [AV.int c.Kind, AV.str c.Key, AV.str c.Val, AV.int c.By]
theorem TOp.flat (c : TOp) : ∀ x ∈ c.cs, Flat x := (H5 (d4 _ _) (H5 (AE1 _) (H5 (AE1 _) (H5 (d4 _ _) U5))))
def TOp.size (c : TOp) : Nat := c.Key.length + c.Val.length
def TOp.ok (c : TOp) : Prop := c.Key.length ≤ 9223372036854775807 ∧ c.Val.length ≤ 9223372036854775807
structure K8 where
  Key : Str
  Val : Str
  There : Bool
deriving DecidableEq, Inhabited
def K8.cs (c : K8) : List AV := [AV.str c.Key, AV.str c.Val, AV.bool c.There]
theorem K8.flat (c : K8) : ∀ x ∈ c.cs, Flat x := (H5 (AE1 _) (H5 (AE1 _) (H5 (U0 _) U5)))
def K8.size (c : K8) : Nat := c.Key.length + c.Val.length
def K8.ok (c : K8) : Prop := c.Key.length ≤ 9223372036854775807 ∧ c.Val.length ≤ 9223372036854775807
structure B2 where
  Ops : List TOp
  Got : List K8
  Terms : List Int
  Begin : Int
  End : Int
  Yes : Bool
  Time : Int
  Dead : Bool
  Put : Bool
  Stopped : Bool
deriving DecidableEq, Inhabited
def B2.cs (c : B2) : List AV := [AV.list 4 (c.Ops.map TOp.cs), AV.list 3 (c.Got.map K8.cs), ints c.Terms, AV.int c.Begin, AV.int c.End, AV.bool c.Yes, AV.int c.Time, AV.bool c.Dead, AV.bool c.Put, AV.bool c.Stopped]
def B2.size (c : B2) : Nat := C7 TOp.size c.Ops + C7 K8.size c.Got + c.Terms.length
def B2.ok (c : B2) : Prop := (∀ x ∈ c.Ops, x.ok) ∧ (∀ x ∈ c.Got, x.ok)
structure B6 where
  Node : Int
  Keys : List Str
  Got : List K8
  Time : Int
  Begin : Int
  End : Int
deriving DecidableEq, Inhabited
def B6.cs (c : B6) : List AV := [AV.int c.Node, strs c.Keys, AV.list 3 (c.Got.map K8.cs), AV.int c.Time, AV.int c.Begin, AV.int c.End]
def B6.size (c : B6) : Nat := C7 (fun x => x.length) c.Keys + C7 K8.size c.Got
def B6.ok (c : B6) : Prop := (∀ x ∈ c.Keys, x.length ≤ 9223372036854775807) ∧ (∀ x ∈ c.Got, x.ok)
structure C9 where
  Now : Int
  Count : Int
  Clocks : List S9
  Cuts : List Str
  Groups : List C4
  Locks : List (List G2)
  Promised : List Int
  Txns : List B2
  Looks : List B6
deriving DecidableEq, Inhabited
def C9.cs (c : C9) : List AV := [AV.int c.Now, AV.int c.Count, AV.list 1 (c.Clocks.map S9.cs), strs c.Cuts, AV.list 3 (c.Groups.map C4.cs), AV.list 1 (c.Locks.map fun x => [AV.list 3 (x.map G2.cs)]), ints c.Promised, AV.list 10 (c.Txns.map B2.cs), AV.list 6 (c.Looks.map B6.cs)]
def C9.size (c : C9) : Nat := c.Clocks.length + C7 (fun x => x.length) c.Cuts + C7 C4.size c.Groups + C7 (fun x => C7 G2.size x) c.Locks + c.Promised.length + C7 B2.size c.Txns + C7 B6.size c.Looks
def C9.ok (c : C9) : Prop := (∀ x ∈ c.Cuts, x.length ≤ 9223372036854775807) ∧ (∀ x ∈ c.Groups, x.ok) ∧ (∀ x ∈ c.Locks, (∀ y ∈ x, y.ok)) ∧ (∀ x ∈ c.Txns, x.ok) ∧ (∀ x ∈ c.Looks, x.ok)
structure f0 where
  Kind : Int
  At : Int
  By : Int
deriving DecidableEq, Inhabited
def f0.cs (c : f0) : List AV := [AV.int c.Kind, AV.int c.At, AV.int c.By]
theorem f0.flat (c : f0) : ∀ x ∈ c.cs, Flat x := (H5 (d4 _ _) (H5 (d4 _ _) (H5 (d4 _ _) U5)))
def f0.size (c : f0) : Nat := 0
structure AE7 where
  Ver : Int
  Cuts : List Str
  Groups : List Int
deriving DecidableEq, Inhabited
def AE7.cs (c : AE7) : List AV := [AV.int c.Ver, strs c.Cuts, ints c.Groups]
def AE7.size (c : AE7) : Nat := C7 (fun x => x.length) c.Cuts + c.Groups.length
def AE7.ok (c : AE7) : Prop := (∀ x ∈ c.Cuts, x.length ≤ 9223372036854775807)
structure AA1 where
  Time : Int
  Group : Int
  Key : Str
  Val : Str
  Gone : Bool
deriving DecidableEq, Inhabited
def AA1.cs (c : AA1) : List AV := [AV.int c.Time, AV.int c.Group, AV.str c.Key, AV.str c.Val, AV.bool c.Gone]
theorem AA1.flat (c : AA1) : ∀ x ∈ c.cs, Flat x := (H5 (d4 _ _) (H5 (d4 _ _) (H5 (AE1 _) (H5 (AE1 _) (H5 (U0 _) U5)))))
def AA1.size (c : AA1) : Nat := c.Key.length + c.Val.length
def AA1.ok (c : AA1) : Prop := c.Key.length ≤ 9223372036854775807 ∧ c.Val.length ≤ 9223372036854775807
structure Ao8 where
  Name : Str
  Col : Int
  Stage : Int
deriving DecidableEq, Inhabited
def Ao8.cs (c : Ao8) : List AV := [AV.str c.Name, AV.int c.Col, AV.int c.Stage]
theorem Ao8.flat (c : Ao8) : ∀ x ∈ c.cs, Flat x := (H5 (AE1 _) (H5 (d4 _ _) (H5 (d4 _ _) U5)))
def Ao8.size (c : Ao8) : Nat := c.Name.length
def Ao8.ok (c : Ao8) : Prop := c.Name.length ≤ 9223372036854775807
def within (n lo hi : Int) : Bool := decide (lo ≤ n) && decide (n ≤ hi)
def Ao9 (b : UInt8) : Bool := (decide ((97 : Int) ≤ (b.toNat : Int)) && decide ((b.toNat : Int) ≤ 122)) || (decide ((48 : Int) ≤ (b.toNat : Int)) && decide ((b.toNat : Int) ≤ 57))
def BU9 (s : Str) (c : UInt8) : Int := firstIdx ⟨s.toArray⟩ c
def hasB (s o : Str) : Bool := s.all fun c => !(!Ao9 c && decide (BU9 o c < 0))
def f6 (s : Str) : Bool := within s.length 1 12 && hasB s [46, 47]
def Aa1 (s : Str) : Bool := decide ((s.length : Int) ≤ 24) && hasB s [46, 45, 44, 95]
def Aa2 (s o : Str) : Bool := s.all fun c => (Ao9 c || o.any fun d => ((c.toNat : Int) == (d.toNat : Int)))
def n1 (s : Str) : Bool := within s.length 1 12 && Aa2 s [46, 47]
theorem CH7 (c : UInt8) (s o : Str) : hasB (c :: s) o = (!(!Ao9 c && decide (BU9 o c < 0)) && hasB s o) := rfl
theorem BY2 (c : UInt8) (s o : Str) : Aa2 (c :: s) o = ((Ao9 c || o.any fun d => ((c.toNat : Int) == (d.toNat : Int))) && Aa2 s o) := rfl
theorem idxB_neg (o : Str) (c : UInt8) : decide (BU9 o c < 0) = !(o.any fun d => ((c.toNat : Int) == (d.toNat : Int))) := by
  have hm : (o.any fun d => ((c.toNat : Int) == (d.toNat : Int))) = decide (c ∈ o) := by
    rw [AO5];simp only [List.any_eq_true, j0, H1];constructor
    · rintro ⟨d, hd, he⟩
      have : c = d := UInt8.toNat_inj.1 (by exact_mod_cast he);exact this ▸ hd
    · intro h; exact ⟨c, h, rfl⟩
  rw [hm];unfold BU9 firstIdx;have hsz : (ByteArray.mk o.toArray).size = o.length := by simp [ByteArray.size]
  have hget : ∀ i, i < o.length → (ByteArray.mk o.toArray)[i]! = o[i]! := fun i hi => by
    simp [getElem!_def, ByteArray.getElem?_lt', hsz, hi];rfl
  rw [hsz]
  cases hf : (List.range o.length).find? fun i => (ByteArray.mk o.toArray)[i]! == c with
  | some i =>
    have h1 := List.find?_some hf;have h2 := List.mem_range.1 (Ah0 hf);rw [hget i h2] at h1;have h3 : c ∈ o := by
      have : o[i]! = c := by simpa using h1
      rw [← this, getElem!_pos o i h2];exact List.getElem_mem h2
    simp [h3]
  | none =>
    have h1 := List.find?_eq_none.1 hf;have h3 : ¬ c ∈ o := fun hm => by
      obtain ⟨i, hi, he⟩ := List.getElem_of_mem hm;have := h1 i (List.mem_range.2 hi);rw [hget i hi, getElem!_pos o i hi, he] at this;simp at this
    simp [h3]
theorem Co3 (s o : Str) : hasB s o = Aa2 s o := by
  unfold hasB Aa2;congr 1
  funext c
  rw [idxB_neg]
  cases Ao9 c <;> simp
theorem AA7 (s : Str) : f6 s = n1 s := by unfold f6 n1; rw [Co3]
theorem I7 : ∀ a : Str, Op.bytesLess a a = false
  | [] => rfl
  | a :: x => by simp [Op.bytesLess, I7 x]
theorem a8 : ∀ a b : Str, Op.bytesLess a b = !(Op.bytesLess b a || b == a)
  | [], [] => rfl
  | [], _ :: _ => rfl
  | _ :: _, [] => rfl
  | a :: x, b :: y => by
    have ih := a8 x y;simp only [Op.bytesLess];by_cases hab : a = b
    · subst hab
      simp [ih]
    · have h1 : (a == b) = false := by simpa using hab
      have h2 : (b == a) = false := by simpa using fun h => hab h.symm
      have h3 : (b :: y == a :: x) = false := by simp [h2]
      simp only [h1, h2, h3, Bool.false_and, Bool.or_false];rw [AO5];simp only [H1, i6, w5, UInt8.not_lt];constructor
      · exact UInt8.le_of_lt
      · exact fun h => UInt8.lt_of_le_of_ne h hab
def adj {α : Type} (p : α → α → Bool) : List α → Bool
  | [] => true
  | [_] => true
  | x :: y :: l => p x y && adj p (y :: l)
theorem CW8 {α : Type} {l : List α} {k : Nat} {x y : α} (hy : l[k]? = some y) (hx : l[k + 1]? = some x) : l.drop k = y :: x :: l.drop (k + 2) := by
  rw [Go.AV.I8 hy, Go.AV.I8 hx]
theorem Ac9 {α : Type} {p : α → α → Bool} {l : List α} {i : Nat} {x y : α} (hx : l[i]? = some x) (hy : l[i - 1]? = some y) (h : 0 < i → p y x = true) : adj p (l.drop (i - 1)) = adj p (l.drop (i + 1 - 1)) := by
  cases i with
  | zero => rfl
  | succ k =>
    simp only [Nat.add_sub_cancel] at *;rw [CW8 hy hx, Go.AV.I8 hx, adj, h qz8, Bool.true_and]
theorem Ad0 {α : Type} {p : α → α → Bool} {l : List α} {i : Nat} {x y : α} (hx : l[i]? = some x) (hy : l[i - 1]? = some y) (h0 : 0 < i) (h : p y x = false) : adj p (l.drop (i - 1)) = false := by
  cases i with
  | zero => omega
  | succ k =>
    simp only [Nat.add_sub_cancel] at *;rw [CW8 hy hx, adj, h, Bool.false_and]
theorem Al4 {α : Type} {p : α → α → Bool} {l : List α} {i : Nat} (h : l.length ≤ i) : adj p (l.drop (i - 1)) = true := by
  have hl : (l.drop (i - 1)).length ≤ 1 := by rw [p7]; omega
  match hd : l.drop (i - 1), hl with
  | [], _ => rfl
  | [x], _ => rfl
def AR9 (t : Int) : Bool := within t 1 100000
def AG1 (val : Str) (gone : Bool) : Bool := Aa1 val && !(gone && val != [])
def AO6 (s : Str) : Bool := decide ((s.length : Int) ≤ 24) && Aa2 s [46, 45, 44, 95]
def Ah4 (key val : Str) (gone : Bool) : Bool := n1 key && AO6 val && (!gone || val == [])
def AI8 (x y : Int) : Int := if x < y then -1 else if y < x then 1 else 0
def Aw7 (x y : Str) : Int := if Op.bytesLess x y then -1 else if Op.bytesLess y x then 1 else 0
theorem Br9 (s : Str) : Aa1 s = AO6 s := by unfold Aa1 AO6; rw [Co3]
theorem Ai2 (s : Str) (g : Bool) : AG1 s g = (AO6 s && (!g || s == [])) := by
  unfold AG1; rw [Br9]; cases g <;> simp [bne]
theorem Ak3 {α : Type} {p : α → Bool} {l : List α} {i : Nat} {x : α} (hx : l[i]? = some x) (h : p x = true) : (l.drop i).all p = (l.drop (i + 1)).all p := by
  rw [Go.AV.I8 hx, p8, h, Bool.true_and]
theorem Ak4 {α : Type} {p : α → Bool} {l : List α} {i : Nat} {x : α} (hx : l[i]? = some x) (h : p x = false) : (l.drop i).all p = false := by
  rw [Go.AV.I8 hx, p8, h, Bool.false_and]
theorem Ar6 {α : Type} {p : α → Bool} {l : List α} {i : Nat} (h : l.length ≤ i) : (l.drop i).all p = true := by
  rw [k6 h]; rfl
theorem AK2 {α β : Type} {f : α → β} {l : List α} {i : Nat} {x : α} (h : l[i]? = some x) : (l.take i).map f ++ [f x] = (l.take (i + 1)).map f := by
  rw [T5, h]; simp
def g7 (l : List Str) : Bool := l.all f6 && adj Op.bytesLess l
def Q3 (l : List A4) : List Str := l.map A4.Key
def j5 (l : List A4) : Bool := decide ((l.length : Int) ≤ 24) && g7 (Q3 l) && !(l.any fun w => !AG1 w.Val w.Gone)
def BO2 (l : List A4) : Bool := j5 l && !(l.any A4.Gone)
def N3 (a b : A4) : Bool := Op.bytesLess a.Key b.Key
def AO7 (w : A4) : Bool := Ah4 w.Key w.Val w.Gone
def AK6 (l : List A4) : Bool := (l.all AO7 && adj N3 l) && decide ((l.length : Int) ≤ 24)
theorem BM2 {α β : Type} (f : α → β) (p : β → β → Bool) : ∀ l : List α, adj p (l.map f) = adj (fun a b => p (f a) (f b)) l
  | [] => rfl
  | [_] => rfl
  | x :: y :: l => by
    have := BM2 f p (y :: l);simp only [U8, adj] at *;rw [this]
theorem AP5 (l : List A4) : j5 l = AK6 l := by
  unfold j5 AK6 g7 Q3;rw [BM2, List.all_map, List.not_any_eq_all_not];have h2 : l.all AO7 = ((l.all (f6 ∘ A4.Key)) && l.all fun w => AO6 w.Val && (!w.Gone || w.Val == [])) := by
    induction l with
    | nil => rfl
    | cons w l ih =>
      simp only [p8, ih, AO7, Ah4, Function.comp, AA7, Bool.and_assoc]
      cases n1 w.Key <;> cases AO6 w.Val <;> cases (!w.Gone || w.Val == []) <;> simp only [Bool.true_and, Bool.and_true, Bool.false_and, Bool.and_false]
  have h1 : (l.all fun w => !!AG1 w.Val w.Gone) = l.all fun w => AO6 w.Val && (!w.Gone || w.Val == []) := by
    congr 1; funext w; rw [Bool.not_not, Ai2]
  rw [h1, h2];show _ = _
  have h3 : adj (fun a b => Op.bytesLess a.Key b.Key) l = adj N3 l := rfl;rw [h3]
  cases l.all (f6 ∘ A4.Key) <;> cases adj N3 l <;> cases decide ((l.length : Int) ≤ 24) <;> cases (l.all fun w => AO6 w.Val && (!w.Gone || w.Val == [])) <;> rfl
def AL1 (n : Int) : Bool := within n 1 60
def BV0 (r : M5) : Bool := ((r.Lead == 0) && ((r.Reads.length : Int) == 0)) && ((r.Writes.length : Int) == 0)
def Av3 (r : M5) : Bool := (((((((AL1 r.Txn && AR9 r.Time) && within r.Lead 0 3) && decide ((r.Reads.length : Int) ≤ 8)) && g7 r.Reads) && decide ((r.Writes.length : Int) ≤ 8)) && j5 r.Writes) && decide (0 < (r.Reads.length : Int) + (r.Writes.length : Int))) && !r.Yes
def Bh0 (r : M5) : Bool := (BV0 r && AL1 r.Txn) && ((r.Yes && AR9 r.Time) || (!r.Yes && (r.Time == 0)))
def CT1 (r : M5) : Bool := ((BV0 r && (r.Txn == 0)) && AR9 r.Time) && !r.Yes
def S1 (r : M5) : Bool := if r.Kind = 1 then Av3 r else if r.Kind = 2 ∨ r.Kind = 3 then Bh0 r else if r.Kind = 4 then CT1 r else false
def BO3 (l : List Str) : Bool := (l.all n1 && adj Op.bytesLess l) && decide ((l.length : Int) ≤ 8)
def Ay1 (r : M5) : Bool := (r.Kind != 1) && ((r.Lead != 0) || decide (0 < (r.Reads.length : Int) + (r.Writes.length : Int)))
def l4G1 (r : M5) : Bool := ((((((within r.Txn 1 60 && within r.Time 1 100000) && within r.Lead 0 3) && BO3 r.Reads) && AK6 r.Writes) && within (r.Writes.length : Int) 0 8) && decide (0 < (r.Reads.length : Int) + (r.Writes.length : Int))) && !r.Yes
def l4G2 (r : M5) : Bool := within r.Txn 1 60 && ((r.Yes && within r.Time 1 100000) || (!r.Yes && (r.Time == 0)))
def l4G4 (r : M5) : Bool := (((r.Kind == 4) && (r.Txn == 0)) && within r.Time 1 100000) && !r.Yes
def Aw8 (r : M5) : Bool := if Ay1 r = true then false else if r.Kind = 1 then l4G1 r else if r.Kind = 2 ∨ r.Kind = 3 then l4G2 r else l4G4 r
theorem bare_odd {r : M5} (h : r.Kind ≠ 1) : BV0 r = !Ay1 r := by
  have hk : (r.Kind != 1) = true := by simpa using h
  unfold BV0 Ay1;rw [hk, Bool.true_and, AO5];simp only [E8, j0, i6, r5, bne_eq_false_iff_eq, w5];omega
theorem keys_eq (l : List Str) : (decide ((l.length : Int) ≤ 8) && g7 l) = BO3 l := by
  unfold g7 BO3;rw [show l.all f6 = l.all n1 by congr 1; funext s; rw [AA7]];rw [Bool.and_comm]
theorem Am9 (r : M5) : S1 r = Aw8 r := by
  unfold S1 Aw8;by_cases h1 : r.Kind = 1
  · have ho : Ay1 r = false := by unfold Ay1; rw [h1]; rfl
    rw [D0 h1, ho, C6 F1, D0 h1];unfold Av3 l4G1;rw [← keys_eq, ← AP5];have hw : within (r.Writes.length : Int) 0 8 = decide ((r.Writes.length : Int) ≤ 8) := by unfold within; simp
    rw [hw];unfold AL1 AR9
    cases within r.Txn 1 60 <;> cases within r.Time 1 100000 <;> cases within r.Lead 0 3 <;> cases decide ((r.Reads.length : Int) ≤ 8) <;> cases g7 r.Reads <;> cases decide ((r.Writes.length : Int) ≤ 8) <;> cases j5 r.Writes <;> simp
  · have hb := bare_odd h1
    rw [C6 h1, C6 h1];by_cases h2 : r.Kind = 2 ∨ r.Kind = 3
    · rw [D0 h2, D0 h2]
      unfold Bh0 l4G2;rw [hb]
      cases Ay1 r <;> simp [AL1, AR9]
    · rw [C6 h2, C6 h2]
      unfold l4G4;by_cases h4 : r.Kind = 4
      · rw [D0 h4]
        unfold CT1;rw [hb, h4]
        cases Ay1 r <;> simp [AR9]
      · rw [C6 h4]
        have e4 : (r.Kind == 4) = false := by simpa using h4
        rw [e4]; cases Ay1 r <;> simp
structure GoodR (r : M5) : Prop where
  kind : 1 ≤ r.Kind ∧ r.Kind ≤ 4
  txn : 0 ≤ r.Txn ∧ r.Txn ≤ 60
  time : 0 ≤ r.Time ∧ r.Time ≤ 100000
  lead : 0 ≤ r.Lead ∧ r.Lead ≤ 3
  reads : r.Reads.length ≤ 8 ∧ ∀ s ∈ r.Reads, n1 s = true
  writes : r.Writes.length ≤ 8 ∧ ∀ w ∈ r.Writes, n1 w.Key = true ∧ AO6 w.Val = true ∧ (w.Gone = true → w.Val = [])
theorem CH8 {r : M5} (h : BV0 r = true) : r.Lead = 0 ∧ r.Reads = [] ∧ r.Writes = [] := by
  unfold BV0 at h;simp only [E8, j0] at h;exact ⟨h.1.1, Ao1 qz8, Ao1 qz8⟩
theorem goodR {r : M5} (h : S1 r = true) : GoodR r := by
  unfold S1 at h;split at h
  · rename_i hk
    unfold Av3 AL1 AR9 within at h
    simp only [E8, H1] at h;obtain ⟨⟨⟨⟨⟨⟨⟨⟨h1, h2⟩, h3⟩, h4⟩, h5⟩, h6⟩, h7⟩, _⟩, _⟩ := h;rw [AP5] at h7;unfold AK6 at h7;unfold g7 at h5;simp only [E8, l5] at h5 h7;refine ⟨by omega, by omega, by omega, by omega, ⟨by omega, fun s hs => by rw [← AA7]; exact h5.1 s hs⟩, ⟨by omega, fun w hw => ?_⟩⟩;have := h7.1.1 w hw;unfold AO7 Ah4 at this;simp only [E8, AA9, i6] at this;exact ⟨this.1.1, this.1.2, fun e => by rcases this.2 with g | g; rw [e] at g; cases g; simpa using g⟩
  · split at h
    · rename_i hk
      unfold Bh0 AL1 AR9 within at h
      simp only [E8, AA9, H1, j0, i6] at h;obtain ⟨⟨h1, h2⟩, h3⟩ := h;obtain ⟨l1, l2, l3⟩ := CH8 h1;refine ⟨by omega, by omega, by omega, by omega, by rw [l2]; exact ⟨E2 _, fun s hs => by cases hs⟩, by rw [l3]; exact ⟨E2 _, fun s hs => by cases hs⟩⟩
    · split at h
      · rename_i hk
        unfold CT1 AR9 within at h
        simp only [E8, H1, j0, i6] at h;obtain ⟨⟨⟨h1, h2⟩, h3⟩, _⟩ := h;obtain ⟨l1, l2, l3⟩ := CH8 h1;refine ⟨by omega, by omega, by omega, by omega, by rw [l2]; exact ⟨E2 _, fun s hs => by cases hs⟩, by rw [l3]; exact ⟨E2 _, fun s hs => by cases hs⟩⟩
      · cases h
theorem Bs0 {s : Str} (h : n1 s = true) : s.length ≤ 12 := by
  unfold n1 within at h
  simp only [E8, H1] at h;have := h.1; omega
theorem Cs3 {s : Str} (h : AO6 s = true) : s.length ≤ 24 := by
  unfold AO6 at h;simp only [E8, H1] at h;have := h.1; omega
set_option linter.unusedSectionVars false
section
variable {α : Type} [Inhabited α]
structure Swo (lt : α → α → Bool) : Prop where
  asym : ∀ a b, lt a b = true → lt b a = false
  ntr : ∀ a b c, lt b a = false → lt c b = false → lt c a = false
def InR (l : List α) (a b : Nat) (x : α) : Prop := ∃ i, a ≤ i ∧ i < b ∧ l[i]? = some x
structure Shuf (l l' : List α) (a b : Nat) : Prop where
  len : l'.length = l.length
  perm : l'.Perm l
  out : ∀ i, i < a ∨ b ≤ i → l'[i]? = l[i]?
  inn : ∀ x, InR l' a b x → InR l a b x
end
section
variable {α : Type} [Inhabited α] [DecidableEq α]
def AK7 (l : List α) : Nat → List α
  | 0 => []
  | n + 1 => if n ≠ 0 ∧ l[n]? = l[n - 1]? then AK7 l n else AK7 l n ++ (l[n]?).toList
def cmpL (l : List α) : List α := AK7 l l.length
theorem CW9 (l : List α) : ∀ n, (AK7 l n).length ≤ n
  | 0 => K5 _
  | n + 1 => by
    have h := CW9 l n;show (if n ≠ 0 ∧ l[n]? = l[n - 1]? then AK7 l n else AK7 l n ++ (l[n]?).toList).length ≤ n + 1
    split
    · omega
    · rw [H3]
      cases l[n]? <;> simp <;> omega
theorem CH9 {l : List α} {n : Nat} (h0 : n ≠ 0) (h : l[n]? = l[n - 1]?) : AK7 l (n + 1) = AK7 l n := D0 ⟨h0, h⟩
theorem CI0 {l : List α} {n : Nat} {x : α} (hx : l[n]? = some x) (h : n = 0 ∨ l[n]? ≠ l[n - 1]?) : AK7 l (n + 1) = AK7 l n ++ [x] := by
  show (if n ≠ 0 ∧ l[n]? = l[n - 1]? then AK7 l n else AK7 l n ++ (l[n]?).toList) = _
  rw [C6 (fun e => h.elim (fun f => e.1 f) fun f => f e.2), hx]; rfl
theorem BH2 {l : List α} : ∀ {n : Nat}, n ≤ l.length → (∀ i, 1 ≤ i → i < n → l[i]? ≠ l[i - 1]?) → AK7 l n = l.take n
  | 0, _, _ => by rw [List.take_zero]; rfl
  | n + 1, hn, h => by
    have hx : l[n]? = some l[n] := N6 qz8;rw [CI0 hx (by by_cases e : n = 0; exact .inl e; exact .inr (h n qz8 qz8)), BH2 qz8 (fun i h1 h2 => h i h1 qz8), T5, hx]; rfl
theorem BY3 {m l : List α} {i j : Nat} {x : α} (h : m.drop i = l.drop i) (hx : l[j]? = some x) (hij : i ≤ j) : m[j]? = some x := by
  have h1 := C3 (fun z : List α => z[j - i]?) h;simp only [AJ3, show i + (j - i) = j by omega] at h1;rw [h1, hx]
theorem cmp_keep {l m : List α} {k i j : Nat} {x y : α} (h : 1 ≤ j ∧ k + j ≤ l.length ∧ i + 1 ≤ k + j ∧ m.length = l.length ∧ m.take i = AK7 l (k + j) ∧ m.drop (k + j - 1) = l.drop (k + j - 1)) (hlt : k + j < l.length) (hx : l[k + j]? = some x) (hy : l[k + j - 1]? = some y) (hn : x ≠ y) :
    1 ≤ j + 1 ∧ k + (j + 1) ≤ l.length ∧ i + 1 + 1 ≤ k + (j + 1) ∧ (m.set i x).length = l.length ∧ (m.set i x).take (i + 1) = AK7 l (k + (j + 1)) ∧ (m.set i x).drop (k + (j + 1) - 1) = l.drop (k + (j + 1) - 1) := by
  obtain ⟨h1, h2, h3, h4, h5, h6⟩ := h;refine ⟨by omega, by omega, by omega, by rw [Z0, h4], ?_, ?_⟩
  · rw [T5, AO3 qz8, List.take_set_of_le (K5 _), h5, ← Nat.add_assoc, CI0 hx (.inr (by rw [hx, hy]; intro e; injection e with e; exact hn e))]; rfl
  · rw [List.drop_set_of_lt qz8, show k + (j + 1) - 1 = k + j - 1 + 1 by omega, ← List.drop_drop, h6, List.drop_drop]
theorem cmp_skip {l m : List α} {k i j : Nat} {x y : α} (h : 1 ≤ j ∧ k + j ≤ l.length ∧ i + 1 ≤ k + j ∧ m.length = l.length ∧ m.take i = AK7 l (k + j) ∧ m.drop (k + j - 1) = l.drop (k + j - 1)) (hlt : k + j < l.length) (hx : l[k + j]? = some x) (hy : l[k + j - 1]? = some y) (hn : x = y) :
    1 ≤ j + 1 ∧ k + (j + 1) ≤ l.length ∧ i + 1 ≤ k + (j + 1) ∧ m.length = l.length ∧ m.take i = AK7 l (k + (j + 1)) ∧ m.drop (k + (j + 1) - 1) = l.drop (k + (j + 1) - 1) := by
  obtain ⟨h1, h2, h3, h4, h5, h6⟩ := h;refine ⟨by omega, by omega, by omega, h4, ?_, ?_⟩
  · rw [h5, ← Nat.add_assoc, CH9 qz8 (by rw [hx, hy, hn])]
  · rw [show k + (j + 1) - 1 = k + j - 1 + 1 by omega, ← List.drop_drop, h6, List.drop_drop]
theorem cmp_end {l m : List α} {f : α → List AV} {k i j q : Nat} {z : List AV} (h : m.take i = AK7 l (k + j)) (hk : k + j = l.length) (hi : i ≤ m.length) : (((m.map f).take (i : Int).toNat ++ List.replicate q z).take (i : Int).toNat) = (cmpL l).map f := by
  unfold cmpL;rw [← hk, ← h, l4, List.map_take, List.take_left' (by rw [F4, A7]; omega)]
end
theorem U3 : ∀ {a b c : Str}, Op.bytesLess a b = true → Op.bytesLess b c = true → Op.bytesLess a c = true
  | [], b, c, h1, h2 => by
    cases c with
    | nil => cases b <;> simp [Op.bytesLess] at h2
    | cons z c => rfl
  | x :: a, [], _, h1, _ => by simp [Op.bytesLess] at h1
  | x :: a, y :: b, [], _, h2 => by simp [Op.bytesLess] at h2
  | x :: a, y :: b, z :: c, h1, h2 => by
    simp only [Op.bytesLess, AA9, E8, H1, j0] at h1 h2 ⊢;rcases h1 with h1 | ⟨h1, h1'⟩
    · rcases h2 with h2 | ⟨h2, _⟩
      · exact .inl (UInt8.lt_trans h1 h2)
      · subst h2; exact .inl h1
    · subst h1
      rcases h2 with h2 | ⟨h2, h2'⟩
      · exact .inl h2
      · exact .inr ⟨h2, U3 h1' h2'⟩
theorem Ag2 (a b : Str) : Aw7 a b < 0 ↔ Op.bytesLess a b = true := by
  unfold Aw7
  cases h1 : Op.bytesLess a b
  · cases h2 : Op.bytesLess b a <;> simp
  · simp
theorem BK3 (a b : Str) : Aw7 a b = 0 ↔ a = b := by
  unfold Aw7;have h3 := a8 a b
  cases h1 : Op.bytesLess a b
  · cases h2 : Op.bytesLess b a
    · rw [h1, h2] at h3; simp at h3; simp [h3]
    · simp; intro h; subst h; rw [h1] at h2; cases h2
  · simp; intro h; subst h; rw [I7] at h1; cases h1
theorem Bg0 {α : Type} {p : α → α → Bool} (tr : ∀ a b c, p a b = true → p b c = true → p a c = true) : ∀ {l : List α} {x : α}, adj p (x :: l) = true → ∀ y ∈ l, p x y = true
  | [], _, _, y, hy => by simp at hy
  | z :: l, x, h, y, hy => by
    simp only [adj, E8] at h;rcases Q0.1 hy with rfl | hy
    · exact h.1
    · exact tr _ _ _ h.1 (Bg0 tr h.2 y hy)
theorem BR5 {α : Type} {p : α → α → Bool} {l : List α} {x : α} (h : adj p (x :: l) = true) : adj p l = true := by
  cases l with
  | nil => rfl
  | cons y l => simp only [adj, E8] at h; exact h.2
theorem AU6 {α : Type} {p : α → α → Bool} (tr : ∀ a b c, p a b = true → p b c = true → p a c = true) : ∀ {l : List α}, adj p l = true → ∀ {i j : Nat} {x y : α}, i < j → l[i]? = some x → l[j]? = some y → p x y = true
  | [], _, i, j, x, y, _, hx, _ => by simp at hx
  | z :: l, h, 0, j + 1, x, y, _, hx, hy => by
    simp at hx; subst hx;exact Bg0 tr h y (C2 Ay5)
  | z :: l, h, i + 1, j + 1, x, y, hij, hx, hy => AU6 tr (BR5 h) (by omega : i < j) AX1 Ay5
theorem CB7 {α : Type} (f : α → Int) (l : List α) (down : ∀ (i j : Nat) (x y : α), i < j → l[i]? = some x → l[j]? = some y → f y < 0 → f x < 0) : ∀ (d i j : Nat), j - i = d → i ≤ j → j ≤ l.length →
    (∀ k x, k < i → l[k]? = some x → f x < 0) → (∀ x, l[j]? = some x → ¬ f x < 0) → (∀ k x, k < bs f l i j → l[k]? = some x → f x < 0) ∧ (∀ x, l[bs f l i j]? = some x → ¬ f x < 0) := by
  intro d;induction d using Nat.strongRecOn with
  | _ d ih =>
    intro i j hd hij hjl hlo hhi;by_cases h : i < j
    · obtain ⟨x, hx⟩ := Go.AV.B4 (show (i + j) / 2 < l.length by omega)
      by_cases hf : f x < 0
      · rw [bs_lo h hx hf]
        refine ih (j - ((i + j) / 2 + 1)) qz8 _ _ rfl qz8 hjl (fun k y hk hy => ?_) hhi;rcases Nat.lt_or_ge k ((i + j) / 2) with h1 | h1
        · exact down k _ y x h1 hy hx hf
        · have : k = (i + j) / 2 := by omega
          subst this;rw [hx] at hy; injection hy with hy; subst hy; exact hf
      · rw [bs_hi h hx hf]
        exact ih ((i + j) / 2 - i) qz8 _ _ rfl qz8 qz8 hlo (fun y hy => by rw [hx] at hy; injection hy with hy; subst hy; exact hf)
    · rw [CW7 h]
      have : i = j := by omega
      subst this;exact ⟨hlo, hhi⟩
def Bd5 (k : Str) (w : A4) : Int := Aw7 w.Key k
def AT3 (l : List A4) (k : Str) : Nat := bs (Bd5 k) l 0 l.length
def Ay2 (l : List A4) (k : Str) : Bool := Ae6 (Bd5 k) l (AT3 l k)
theorem Y7 (a b c : A4) (h : N3 a b = true) (k : N3 b c = true) : N3 a c = true := U3 h k
theorem CI1 {l : List A4} (h : adj N3 l = true) (k : Str) : (∀ i x, i < AT3 l k → l[i]? = some x → Op.bytesLess x.Key k = true) ∧ (∀ x, l[AT3 l k]? = some x → Op.bytesLess x.Key k = false) := by
  have := CB7 (Bd5 k) l (fun i j x y hij hx hy hf => by
    unfold Bd5 at *;rw [Ag2] at *;exact U3 (AU6 Y7 h hij hx hy) hf) l.length 0 l.length rfl (E2 _) (K5 _) (fun k x hk => by omega) (fun x hx => by rw [AO4 (K5 _)] at hx; cases hx)
  refine ⟨fun i x hi hx => (Ag2 _ _).1 (this.1 i x hi hx), fun x hx => ?_⟩;have h2 := this.2 x hx;unfold Bd5 at h2;rw [Ag2] at h2;simpa using h2
def findW (l : List A4) (k : Str) : Option A4 := l.find? fun w => w.Key == k
theorem Bm3 {l : List A4} (h : adj N3 l = true) (k : Str) : findW l k = if Ay2 l k = true then l[AT3 l k]? else none := by
  obtain ⟨h1, h2⟩ := CI1 h k;have hat : ∀ w ∈ l, w.Key = k → l[AT3 l k]? = some w := fun w hw he => by
    obtain ⟨i, hi⟩ := X9 hw;rcases Nat.lt_trichotomy i (AT3 l k) with hlt | heq | hgt
    · have := h1 i w hlt hi
      rw [he, I7] at this; cases this
    · rw [← heq]; exact hi
    · obtain ⟨y, hy⟩ := Go.AV.B4 (show AT3 l k < l.length by have := (E9.1 hi).1; omega)
      have h3 := h2 y hy;have h4 := AU6 Y7 h hgt hy hi;unfold N3 at h4;rw [he, h3] at h4; cases h4
  unfold Ay2 Ae6 findW
  cases hp : l[AT3 l k]? with
  | none =>
    simp only [Bool.false_eq_true, if_false];rw [List.find?_eq_none];intro w hw;simp only [j0];intro he;have := hat w hw he;rw [hp] at this; cases this
  | some y =>
    simp only [Bd5, j0, BK3];by_cases hk : y.Key = k
    · rw [D0 hk]
      cases hf : l.find? fun w => w.Key == k with
      | none =>
        have := List.find?_eq_none.1 hf y (C2 hp);simp [hk] at this
      | some w =>
        have h5 := List.find?_some hf;have h6 := hat w (Ah0 hf) (by simpa using h5);rw [hp] at h6; exact h6.symm
    · rw [C6 hk, List.find?_eq_none]
      intro w hw;simp only [j0];intro he;have := hat w hw he;rw [hp] at this; injection this with this; subst this; exact hk he
def ins : List A4 → A4 → List A4
  | [], w => [w]
  | x :: l, w => if Op.bytesLess x.Key w.Key = true then x :: ins l w else if x.Key = w.Key then w :: l else w :: x :: l
theorem BY4 {w : A4} : ∀ {l : List A4} {p : Nat}, p ≤ l.length → (∀ i x, i < p → l[i]? = some x → Op.bytesLess x.Key w.Key = true) → (∀ x, l[p]? = some x → Op.bytesLess x.Key w.Key = false) →
    ins l w = if (∃ x, l[p]? = some x ∧ x.Key = w.Key) then l.set p w else l.take p ++ w :: l.drop p
  | [], p, hp, _, _ => by simp at hp; subst hp; simp [ins]
  | x :: l, 0, _, _, h2 => by
    have h := h2 x rfl;unfold ins;rw [h];by_cases hk : x.Key = w.Key
    · rw [C6 F1, D0 hk, D0 ⟨x, rfl, hk⟩]; rfl
    · rw [C6 F1, C6 hk, C6 (fun ⟨y, hy, hyk⟩ => by simp at hy; subst hy; exact hk hyk)]; rfl
  | x :: l, p + 1, hp, h1, h2 => by
    have h := h1 0 x qz8 rfl;unfold ins;rw [D0 h, BY4 (l := l) (p := p) (by simpa using hp) (fun i y hi hy => h1 (i + 1) y qz8 Ay5) (fun y hy => h2 y Ay5)];simp only [BG2, Au1, Aj4, Az0];split <;> simp
def Ak7 (l : List A4) (w : A4) : List A4 := if Ay2 l w.Key = true then l.set (AT3 l w.Key) w else l.take (AT3 l w.Key) ++ w :: l.drop (AT3 l w.Key)
theorem Co4 {p : Prop} (h : p := by
  intro d;induction d using Nat.strongRecOn with
  | _ d ih =>
    intro i j hd hij hjl;by_cases h : i < j
    · obtain ⟨x, hx⟩ := Go.AV.B4 (show (i + j) / 2 < l.length by omega)
      by_cases hf : f x < 0
      · rw [bs_lo h hx hf]
        exact ih (j - ((i + j) / 2 + 1)) qz8 _ _ rfl qz8 hjl
      · rw [bs_hi h hx hf]
        exact L8 (ih ((i + j) / 2 - i) qz8 _ _ rfl qz8 qz8) qz8
    · rw [CW7 h]; exact hij) : p := h
theorem bs_le {α : Type} (f : α → Int) (l : List α) : ∀ (d i j : Nat), j - i = d → i ≤ j → j ≤ l.length → bs f l i j ≤ j := Co4
theorem Co5 (l : List A4) (k : Str) : AT3 l k ≤ l.length := bs_le _ _ _ _ _ rfl (E2 _) (K5 _)
theorem BR6 {l : List A4} {k : Str} : Ay2 l k = true ↔ ∃ x, l[AT3 l k]? = some x ∧ x.Key = k := by
  unfold Ay2 Ae6
  cases h : l[AT3 l k]? with
  | none => simp
  | some x => simp [Bd5, BK3]
theorem Bm4 {l : List A4} (h : adj N3 l = true) (w : A4) : Ak7 l w = ins l w := by
  obtain ⟨h1, h2⟩ := CI1 h w.Key;rw [BY4 (Co5 l w.Key) h1 h2];unfold Ak7;by_cases hw : Ay2 l w.Key = true
  · rw [D0 hw, D0 (BR6.1 hw)]
  · rw [C6 hw, C6 (fun h => hw (BR6.2 h))]
def AG2 (l : List A4) (k : Str) : Nat → Nat
  | 0 => 0
  | n + 1 => match l[n]? with
    | some x => if Op.bytesLess k x.Key = true then AG2 l k n else n + 1
    | none => n + 1
def CF9 (l : List A4) (k : Str) : Nat → Bool
  | 0 => false
  | n + 1 => match l[n]? with
    | some x => x.Key == k
    | none => false
def BV1 (l : List A4) (w : A4) : List A4 :=
  if CF9 l w.Key (AG2 l w.Key l.length) = true then l.set (AG2 l w.Key l.length - 1) w else l.take (AG2 l w.Key l.length) ++ w :: l.drop (AG2 l w.Key l.length)
theorem CX0 (l : List A4) (k : Str) : ∀ n, AG2 l k n ≤ n
  | 0 => K5 _
  | n + 1 => by
    unfold AG2;split
    · split
      · exact Nat.le_succ_of_le (CX0 l k n)
      · exact K5 _
    · exact K5 _
theorem Bs1 (l : List A4) (k : Str) : ∀ n, n ≤ l.length → (∀ i x, AG2 l k n ≤ i → i < n → l[i]? = some x → Op.bytesLess k x.Key = true) ∧ (∀ x, 0 < AG2 l k n → l[AG2 l k n - 1]? = some x → Op.bytesLess k x.Key = false)
  | 0, _ => ⟨fun i x h1 h2 => by omega, fun x h => by simp [AG2] at h⟩
  | n + 1, hn => by
    obtain ⟨x, hx⟩ := Go.AV.B4 (show n < l.length by omega);have ih := Bs1 l k n qz8;unfold AG2;simp only [hx];by_cases hb : Op.bytesLess k x.Key = true
    · rw [D0 hb]
      refine ⟨fun i y h1 h2 hy => ?_, ih.2⟩;rcases Nat.lt_or_ge i n with h3 | h3
      · exact ih.1 i y h1 h3 hy
      · have : i = n := by omega
        subst this;rw [hx] at hy; injection hy with hy; subst hy; exact hb
    · rw [C6 hb]
      refine ⟨fun i y h1 h2 hy => by omega, fun y _ hy => ?_⟩;rw [Nat.add_sub_cancel, hx] at hy; injection hy with hy; subst hy
      simpa using hb
theorem BY5 {l : List A4} (h : adj N3 l = true) (w : A4) : BV1 l w = ins l w := by
  obtain ⟨h1, h2⟩ := Bs1 l w.Key l.length (K5 _);have hle := CX0 l w.Key l.length;unfold BV1;generalize AG2 l w.Key l.length = k at *
  cases k with
  | zero =>
    rw [C6 (by simp [CF9]), BY4 (l := l) (p := 0) (E2 _) (fun i x h => by omega) (fun x hx => by
      have h3 := h1 0 x (K5 _) (E9.1 hx).1 hx
      cases hb : Op.bytesLess x.Key w.Key with
      | false => rfl
      | true => have := U3 h3 hb; rw [I7] at this; cases this)]
    rw [C6];intro ⟨x, hx, hk⟩;have h3 := h1 0 x (K5 _) (E9.1 hx).1 hx;rw [hk, I7] at h3; cases h3
  | succ n =>
    obtain ⟨x, hx⟩ := Go.AV.B4 (show n < l.length by omega);have h3 := h2 x qz8 AX1;have htri := a8 x.Key w.Key;by_cases hk : x.Key = w.Key
    · rw [D0 (by simp [CF9, hx, hk]), Nat.add_sub_cancel]
      rw [BY4 (l := l) (p := n) qz8 (fun i y hi hy => by have := AU6 Y7 h hi hy hx; unfold N3 at this; rw [hk] at this; exact this) (fun y hy => by rw [hx] at hy; injection hy with hy; subst hy; rw [hk, I7])];rw [D0 ⟨x, hx, hk⟩]
    · have hlt : Op.bytesLess x.Key w.Key = true := by rw [h3] at htri; cases hb : Op.bytesLess x.Key w.Key with | true => rfl | false => (rw [hb] at htri; simp at htri; exact absurd htri.symm hk)
      rw [C6 (by simp [CF9, hx, hk])];have hno : ∀ y, l[n + 1]? = some y → Op.bytesLess w.Key y.Key = true := fun y hy => h1 (n + 1) y (K5 _) (E9.1 hy).1 hy;rw [BY4 (l := l) (p := n + 1) hle (fun i y hi hy => by
        rcases Nat.lt_or_ge i n with h4 | h4
        · have := AU6 Y7 h h4 hy hx
          exact U3 this hlt
        · have : i = n := by omega
          subst this;rw [hx] at hy; injection hy with hy; subst hy; exact hlt) (fun y hy => by
        cases hb : Op.bytesLess y.Key w.Key with
        | false => rfl
        | true => have := U3 (hno y hy) hb; rw [I7] at this; cases this)]
      rw [C6];intro ⟨y, hy, hyk⟩;have := hno y hy;rw [hyk, I7] at this; cases this
theorem p6 {α : Type} {p : α → α → Bool} (tr : ∀ a b c, p a b = true → p b c = true → p a c = true) : ∀ {l : List α}, adj p l = true ↔ l.Pairwise fun a b => p a b = true
  | [] => by simp [adj]
  | [x] => by simp [adj]
  | x :: y :: l => by
    rw [adj, E8, p6 tr, n4 (a := x)];constructor
    · intro ⟨h1, h2⟩
      refine ⟨fun z hz => ?_, h2⟩;rcases Q0.1 hz with rfl | hz
      · exact h1
      · exact tr _ _ _ h1 (List.rel_of_pairwise_cons h2 hz)
    · intro ⟨h1, h2⟩
      exact ⟨h1 y Y9, h2⟩
theorem Bs2 {l : List A4} (q : A4 → Bool) (h : adj N3 l = true) : adj N3 (l.filter q) = true :=
  (p6 Y7).2 (((p6 Y7).1 h).filter q)
theorem BB7 {w x : A4} : ∀ {l : List A4}, x ∈ ins l w → x = w ∨ x ∈ l
  | [], h => by simp [ins] at h; exact .inl h
  | y :: l, h => by
    unfold ins at h;split at h
    · rcases Q0.1 h with rfl | h
      · exact .inr Y9
      · exact (BB7 h).imp id (Q2 _)
    · split at h
      · rcases Q0.1 h with rfl | h
        · exact .inl rfl
        · exact .inr (Q2 _ h)
      · rcases Q0.1 h with rfl | h
        · exact .inl rfl
        · exact .inr h
theorem AZ6 {w : A4} : ∀ {l : List A4}, adj N3 l = true → adj N3 (ins l w) = true
  | [], _ => rfl
  | y :: l, h => by
    have hp := (p6 Y7).1 h;refine (p6 Y7).2 ?_;unfold ins;split
    · rename_i hlt
      have ih := (p6 Y7).1 (AZ6 (w := w) (BR5 h));refine n4.2 ⟨fun z hz => ?_, ih⟩;rcases BB7 hz with rfl | hz
      · exact hlt
      · exact List.rel_of_pairwise_cons hp hz
    · rename_i hnlt
      split
      · rename_i hk
        refine n4.2 ⟨fun z hz => ?_, (n4.1 hp).2⟩;have := List.rel_of_pairwise_cons hp hz;unfold N3 at this ⊢;rw [← hk]; exact this
      · rename_i hk
        have hgt : Op.bytesLess w.Key y.Key = true := by
          have := a8 y.Key w.Key
          cases hb : Op.bytesLess w.Key y.Key with
          | true => rfl
          | false => rw [hb] at this; simp at hnlt; rw [hnlt] at this; simp at this; exact absurd this.symm hk
        refine n4.2 ⟨fun z hz => ?_, hp⟩;rcases Q0.1 hz with rfl | hz
        · exact hgt
        · exact U3 hgt (List.rel_of_pairwise_cons hp hz)
theorem BM3 {w : A4} : ∀ {l : List A4}, l.length ≤ (ins l w).length ∧ (ins l w).length ≤ l.length + 1
  | [] => by simp [ins]
  | y :: l => by
    unfold ins;have ih := BM3 (w := w) (l := l);split
    · simp; omega
    · split <;> simp
theorem Bg1 (a b : Str) : (!(Op.bytesLess a b || a == b)) = Op.bytesLess b a := by
  have h := a8 a b
  cases h1 : Op.bytesLess a b
  · cases h2 : Op.bytesLess b a
    · rw [h1, h2] at h; simp at h; simp [h]
    · simp; intro hc; subst hc; rw [I7] at h2; cases h2
  · simp; cases h2 : Op.bytesLess b a with
    | false => rfl
    | true => have := U3 h1 h2; rw [I7] at this; cases this
theorem Cs4 {l : List A4} {k : Str} {n : Nat} {x : A4} (hx : l[n]? = some x) (h : Op.bytesLess k x.Key = true) : AG2 l k (n + 1) = AG2 l k n := by
  conv => lhs; unfold AG2
  simp only [hx, h, if_true]
theorem Cs5 {l : List A4} {k : Str} {n : Nat} {x : A4} (hx : l[n]? = some x) (h : Op.bytesLess k x.Key = false) : AG2 l k (n + 1) = n + 1 := by
  unfold AG2;simp only [hx, h, Bool.false_eq_true, if_false]
def m4 (l ws : List A4) : List A4 := ws.foldl ins l
theorem AF7 : ∀ {ws l : List A4}, adj N3 l = true → adj N3 (m4 l ws) = true
  | [], _, h => h
  | w :: ws, l, h => AF7 (ws := ws) (AZ6 h)
theorem BD3 {x : A4} : ∀ {ws l : List A4}, x ∈ m4 l ws → x ∈ ws ∨ x ∈ l
  | [], _, h => .inr h
  | w :: ws, l, h => by
    rcases BD3 (ws := ws) (l := ins l w) h with h | h
    · exact .inl (Q2 _ h)
    · rcases BB7 h with rfl | h
      · exact .inl Y9
      · exact .inr h
theorem Ad1 : ∀ {ws l : List A4}, (m4 l ws).length ≤ l.length + ws.length
  | [], l => by simp [m4]
  | w :: ws, l => by
    have h1 := Ad1 (ws := ws) (l := ins l w);have h2 := (BM3 (w := w) (l := l)).2;show (m4 (ins l w) ws).length ≤ _
    simp only [H8]; omega
def Ap0 (l ws : List A4) : List A4 := ws.foldl Ak7 l
theorem CX1 : ∀ {ws l : List A4}, adj N3 l = true → Ap0 l ws = m4 l ws
  | [], _, _ => rfl
  | w :: ws, l, h => by
    show Ap0 (Ak7 l w) ws = m4 (ins l w) ws
    rw [Bm4 h, CX1 (AZ6 h)]
theorem putW_len (l : List A4) (w : A4) : (Ak7 l w).length ≤ l.length + 1 := by
  unfold Ak7; split
  · simp
  · simp; omega
theorem Bm5 : ∀ (ws l : List A4), (Ap0 l ws).length ≤ l.length + ws.length
  | [], l => by simp [Ap0]
  | w :: ws, l => by
    have h1 := Bm5 ws (Ak7 l w);have h2 := putW_len l w;show (Ap0 (Ak7 l w) ws).length ≤ _
    simp only [H8]; omega
theorem DA3 (l ws : List A4) (w : A4) : Ap0 l (ws ++ [w]) = Ak7 (Ap0 l ws) w := by unfold Ap0; rw [List.foldl_append]; rfl
def AZ2 (l : List A4) : List A4 := l.filter fun w => !w.Gone
def AV9 (rows ws : List A4) : List A4 × Bool := if (24 : Int) < ((AZ2 (Ap0 rows ws)).length : Int) then ([], false) else (AZ2 (Ap0 rows ws), true)
def BE8 (a b : Int) : Int := if a < b then a else b
theorem BY6 (a b : Str) : Op.bytesLess a b = true ∨ a = b ∨ Op.bytesLess b a = true := by
  have h := a8 a b
  cases h1 : Op.bytesLess a b
  · cases h2 : Op.bytesLess b a
    · rw [h1, h2] at h; simp at h; exact .inr (.inl h.symm)
    · exact .inr (.inr rfl)
  · exact .inl rfl
def AN6 (l : List Str) : Prop := l.Pairwise fun a b => Op.bytesLess a b = true
theorem CX2 : ∀ {a b : List Str}, AN6 a → AN6 b → (∀ x, x ∈ a ↔ x ∈ b) → a = b
  | [], [], _, _, _ => rfl
  | [], y :: b, _, _, h => by have := (h y).2 Y9; cases this
  | x :: a, [], _, _, h => by have := (h x).1 Y9; cases this
  | x :: a, y :: b, ha, hb, h => by
    obtain ⟨a1, a2⟩ := n4.1 ha;obtain ⟨b1, b2⟩ := n4.1 hb;have asym : ∀ {u v : Str}, Op.bytesLess u v = true → Op.bytesLess v u = true → False := fun h k => by
      have := U3 h k; rw [I7] at this; cases this
    have e : x = y := by
      rcases Q0.1 ((h x).1 Y9) with e | e
      · exact e
      · rcases Q0.1 ((h y).2 Y9) with f | f
        · exact f.symm
        · exact (asym (b1 x e) (a1 y f)).elim
    subst e;rw [CX2 a2 b2 fun z => ?_];constructor
    · intro hz
      rcases Q0.1 ((h z).1 (Q2 _ hz)) with e | e
      · subst e; have := a1 z hz; rw [I7] at this; cases this
      · exact e
    · intro hz
      rcases Q0.1 ((h z).2 (Q2 _ hz)) with e | e
      · subst e; have := b1 z hz; rw [I7] at this; cases this
      · exact e
def Av4 (l : List Str) : List Str := l.mergeSort fun x y => decide (x ≤ y)
theorem le_less (x y : Str) : decide (x ≤ y) = !Op.bytesLess y x := by
  rw [Go.Proofs.bytesLess_eq];by_cases h : y < x
  · simp [h, List.not_le.2 h]
  · simp [h, List.not_lt.1 h]
theorem DA4 (l : List Str) (z : Str) : z ∈ Av4 l ↔ z ∈ l := (List.mergeSort_perm l _).mem_iff
theorem BY7 (l : List Str) : (Av4 l).length = l.length := List.length_mergeSort l
theorem Cs6 (l : List Str) : (Av4 l).Pairwise fun a b => Op.bytesLess b a = false := by
  have h := List.pairwise_mergeSort (le := fun x y : Str => decide (x ≤ y)) (fun a b c h1 h2 => by
    simp only [H1] at *; exact List.le_trans h1 h2) (fun a b => by
    simp only [AA9, H1]; exact List.le_total a b) l
  refine h.imp fun {a b} hab => ?_;rw [le_less] at hab;simpa using hab
theorem BH3 {l : List Str} {z : Str} : ∀ {n : Nat}, z ∈ AK7 l n ↔ ∃ i, i < n ∧ l[i]? = some z
  | 0 => by constructor
            · intro h; cases h
            · rintro ⟨i, h, _⟩; omega
  | n + 1 => by
    show z ∈ (if n ≠ 0 ∧ l[n]? = l[n - 1]? then AK7 l n else AK7 l n ++ (l[n]?).toList) ↔ _
    split
    · rename_i h
      rw [BH3];constructor
      · exact fun ⟨i, h1, h2⟩ => ⟨i, by omega, h2⟩
      · intro ⟨i, h1, h2⟩
        by_cases e : i = n
        · subst e; exact ⟨i - 1, by omega, h.2 ▸ h2⟩
        · exact ⟨i, by omega, h2⟩
    · rw [o5, BH3, Option.mem_toList]
      constructor
      · rintro (⟨i, h1, h2⟩ | h)
        · exact ⟨i, by omega, h2⟩
        · exact ⟨n, by omega, h⟩
      · intro ⟨i, h1, h2⟩
        by_cases e : i = n
        · subst e; exact .inr h2
        · exact .inl ⟨i, by omega, h2⟩
theorem DA5 (l : List Str) (z : Str) : z ∈ cmpL l ↔ z ∈ l := by
  unfold cmpL;rw [BH3];constructor
  · exact fun ⟨i, _, h⟩ => C2 h
  · intro h
    obtain ⟨i, hi⟩ := X9 h;exact ⟨i, (E9.1 hi).1, hi⟩
theorem Bm6 {l : List Str} (hs : l.Pairwise fun a b => Op.bytesLess b a = false) {i j : Nat} {x y : Str} (hij : i < j) (hx : l[i]? = some x) (hy : l[j]? = some y) : Op.bytesLess y x = false := by
  obtain ⟨h1, e1⟩ := E9.1 hx;obtain ⟨h2, e2⟩ := E9.1 hy;have := List.pairwise_iff_getElem.1 hs i j h1 h2 hij;rw [e1, e2] at this; exact this
theorem CI2 {l : List Str} (hs : l.Pairwise fun a b => Op.bytesLess b a = false) : ∀ {n : Nat}, n ≤ l.length → AN6 (AK7 l n)
  | 0, _ => List.Pairwise.nil
  | n + 1, hn => by
    have ih := CI2 hs (n := n) qz8;show AN6 (if n ≠ 0 ∧ l[n]? = l[n - 1]? then AK7 l n else AK7 l n ++ (l[n]?).toList)
    split
    · exact ih
    · rename_i h
      obtain ⟨x, hx⟩ := B4 (show n < l.length by omega);rw [hx];refine List.pairwise_append.2 ⟨ih, List.pairwise_singleton _ _, fun z hz w hw => ?_⟩;simp at hw; subst hw;obtain ⟨i, hi, hzi⟩ := BH3.1 hz;have h1 := Bm6 hs hi hzi hx;rcases BY6 z w with e | e | e
      · exact e
      · exfalso
        subst e;apply h
        refine ⟨by omega, ?_⟩;by_cases f : i = n - 1
        · rw [hx, ← f, hzi]
        · obtain ⟨v, hv⟩ := B4 (show n - 1 < l.length by omega)
          have h3 := Bm6 hs (show n - 1 < n by omega) hv hx;have h4 := Bm6 hs (show i < n - 1 by omega) hzi hv;rw [hx, hv];rcases BY6 z v with g | g | g
          · rw [g] at h3; cases h3
          · rw [g]
          · rw [g] at h4; cases h4
      · rw [h1] at e; cases e
def Ah5 (l : List Str) : List Str := cmpL (Av4 l)
theorem CI3 (l : List Str) : AN6 (Ah5 l) := CI2 (Cs6 l) (K5 _)
theorem BH4 (l : List Str) (z : Str) : z ∈ Ah5 l ↔ z ∈ l := by unfold Ah5; rw [DA5, DA4]
theorem BY8 (l : List Str) : (Ah5 l).length ≤ l.length := by
  have := CW9 (Av4 l) (Av4 l).length;unfold Ah5 cmpL; rw [BY7] at this ⊢; exact this
def u4 : List Str → Str → List Str
  | [], s => [s]
  | y :: l, s => if Op.bytesLess s y = true then s :: y :: l else if y = s then y :: l else y :: u4 l s
theorem BD4 {s : Str} : ∀ {l : List Str}, AN6 l → AN6 (u4 l s) ∧ ∀ z, z ∈ u4 l s ↔ z ∈ l ∨ z = s
  | [], _ => ⟨by unfold AN6 u4; simp, fun z => by simp [u4]⟩
  | y :: l, h => by
    obtain ⟨h1, h2⟩ := n4.1 h;unfold u4;split
    · rename_i hs
      refine ⟨n4.2 ⟨fun z hz => ?_, h⟩, fun z => ?_⟩
      · rcases Q0.1 hz with rfl | hz
        · exact hs
        · exact U3 hs (h1 z hz)
      · rw [Q0, or_comm]
    · rename_i hs
      split
      · rename_i e
        subst e;refine ⟨h, fun z => ⟨.inl, ?_⟩⟩
        rintro (hz | rfl)
        · exact hz
        · exact Y9
      · rename_i e
        obtain ⟨i1, i2⟩ := BD4 (s := s) h2;have hys : Op.bytesLess y s = true := by
          rcases BY6 y s with g | g | g
          · exact g
          · exact absurd g e
          · exact absurd g hs
        refine ⟨n4.2 ⟨fun z hz => ?_, i1⟩, fun z => ?_⟩
        · rcases (i2 z).1 hz with hz | rfl
          · exact h1 z hz
          · exact hys
        · rw [Q0, i2, Q0, or_assoc]
theorem BR7 (s : Str) : ∀ l : List Str, (u4 l s).length ≤ l.length + 1
  | [] => K5 _
  | y :: l => by
    have := BR7 s l;unfold u4;split
    · exact K5 _
    · split
      · exact Nat.le_succ _
      · rw [H8, H8]; omega
def w3 (l : List Str) (o : List Str) : List Str := l.foldl u4 o
theorem AZ7 : ∀ {l o : List Str}, AN6 o → AN6 (w3 l o) ∧ ∀ z, z ∈ w3 l o ↔ z ∈ o ∨ z ∈ l
  | [], o, h => ⟨h, fun z => by simp [w3]⟩
  | s :: l, o, h => by
    obtain ⟨h1, h2⟩ := BD4 (s := s) h;obtain ⟨i1, i2⟩ := AZ7 (l := l) h1;refine ⟨i1, fun z => ?_⟩;show z ∈ w3 l (u4 o s) ↔ _
    rw [i2, h2, Q0, or_assoc]
theorem CI4 (l : List Str) : Ah5 l = w3 l [] := by
  obtain ⟨h1, h2⟩ := AZ7 (l := l) (o := []) List.Pairwise.nil;exact CX2 (CI3 l) h1 fun z => by rw [BH4, h2]; simp
theorem CI5 {s : Str} : ∀ {l : List Str} {k : Nat}, AN6 l → k ≤ l.length → (∀ i y, k ≤ i → l[i]? = some y → Op.bytesLess s y = true) → (∀ y, 0 < k → l[k - 1]? = some y → Op.bytesLess s y = false ∧ y ≠ s) → u4 l s = l.take k ++ s :: l.drop k
  | [], k, _, hk, _, _ => by have : k = 0 := by simpa using hk
                             subst this; rfl
  | y :: l, 0, _, _, h, _ => by
    unfold u4;rw [D0 (h 0 y (K5 _) rfl)]; rfl
  | y :: l, k + 1, hs, hk, h, g => by
    obtain ⟨h1, h2⟩ := n4.1 hs;have hy : Op.bytesLess s y = false ∧ y ≠ s := by
      cases k with
      | zero => exact g y qz8 rfl
      | succ k =>
        obtain ⟨z, hz⟩ := B4 (show k < l.length by simp at hk; omega);have hgz := g z qz8 (by simpa using hz);have hyz := h1 z (C2 hz);refine ⟨?_, fun e => ?_⟩
        · cases e : Op.bytesLess s y with
          | false => rfl
          | true => have := U3 e hyz; rw [hgz.1] at this; cases this
        · subst e; rw [hyz] at hgz; cases hgz.1
    unfold u4;rw [C6 (by rw [hy.1]; decide), C6 hy.2, CI5 h2 At8 (fun i z hi hz => h (i + 1) z qz8 (by simpa using hz)) (fun z hz hz2 => g z qz8 (by
      cases k with
      | zero => omega
      | succ k => simpa using hz2))]
    rfl
theorem Bs3 {s : Str} : ∀ {l : List Str} {k : Nat}, AN6 l → l[k]? = some s → u4 l s = l
  | y :: l, 0, hs, h => by
    simp at h; subst h;unfold u4;rw [C6 (by rw [I7]; decide), D0 rfl]
  | y :: l, k + 1, hs, h => by
    obtain ⟨h1, h2⟩ := n4.1 hs;have h3 : l[k]? = some s := by simpa using h
    have hy := h1 s (C2 h3);unfold u4;rw [C6 (fun e => by have := U3 e hy; rw [I7] at this; cases this), C6 (fun e => by rw [e, I7] at hy; cases hy), Bs3 h2 h3]
  | [], k, hs, h => by simp at h
theorem An0 (l o : List Str) (s : Str) : w3 (l ++ [s]) o = u4 (w3 l o) s := by
  unfold w3; rw [List.foldl_append]; rfl
theorem Ai3 : ∀ (l o : List Str), (w3 l o).length ≤ o.length + l.length
  | [], o => K5 _
  | s :: l, o => by
    have h1 := Ai3 l (u4 o s);have h2 := BR7 s o;show (w3 l (u4 o s)).length ≤ _
    rw [H8]; omega
end Go.M
