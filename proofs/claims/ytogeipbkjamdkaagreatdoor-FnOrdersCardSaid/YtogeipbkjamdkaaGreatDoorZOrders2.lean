/- Texts of the claim, part 2. -/
import Derived.Laws.BytesArg
import Derived.Laws.IdiomStrings
import Derived.Lib.AppendZerosOnto
import Derived.Lib.Overlaps
import Derived.Sort.Grow
import Derived.Lib.LaidTab
import Derived.Lib.ItoaNum
import Derived.Lib.Split
import Derived.Lib.SplitLaws
import Derived.Lib.ConvBytes
import Derived.WideLaws
import Derived.SizedLaws
import Derived.Test.YtogeipbkjamdkaaGreatDoorProg
import Derived.Sort.Walk0
import Derived.Test.YtogeipbkjamdkaaGreatDoorZOrders1
set_option linter.unusedVariables false
set_option linter.unusedSimpArgs false
set_option maxRecDepth 100000
set_option maxHeartbeats 4000000
set_option linter.defProp false
def M2 := @Go.Proofs.Tryz.underlying9
def U6 := @Go.Proofs.Tryz.sizeOf137
def AC4 := @Go.Proofs.Tryz.sizeOf257
def X6 := @Go.Proofs.Tryz.underlying97
def o0 := @Go.Proofs.Tryz.sizeOf163
def y7 := @Go.Proofs.Tryz.underlying205
def Y0 := @Go.Proofs.Tryz.sizeOf225
def G9 := @Go.Proofs.Tryz.underlying98
def i8 := @Go.Proofs.Tryz.underlying51
def F2 := @Go.Proofs.Tryz.sizeOf69
def T0 := @Go.Proofs.Tryz.sizeOf172
def K9 := @Go.Proofs.Tryz.underlying170
def Y4 := @Go.Proofs.Tryz.isAgg172
def I8 := @Go.Proofs.Tryz.underlying132
def M3 := @Go.Proofs.Tryz.isAgg168
def AB7 := @Go.Proofs.Tryz.isAgg163
def AH8 := @Go.Proofs.Tryz.sizeOf279
def U3 := @Go.Proofs.Tryz.sizeOf80
def j0 := @Go.Proofs.Tryz.isAgg104
def AH4 := @Go.Proofs.Tryz.underlying157
def AP9 := @Go.Proofs.Tryz.sizeOf166
def Q0 := @Go.Proofs.Tryz.underlying203
def AB8 := @Go.Proofs.Tryz.underlying22
def N2 := @Go.Proofs.Tryz.underlying141
def T4 := @Go.Proofs.Tryz.sizeOf262
def AZ1 := @Go.Proofs.Tryz.isAgg80
def G2 := @Go.Proofs.Tryz.underlying24
def AB9 := @Go.Proofs.Tryz.isAgg145
def D0 := @Go.Proofs.Tryz.sizeOf3
def Q5 := @Go.Proofs.Tryz.sizeOf104
def W8 := @Go.Proofs.Tryz.sizeOf145
def S0 := @Go.Proofs.Tryz.sizeOf4
def N3 := @Go.Proofs.Tryz.underlying133
def Z5 := @Go.Proofs.Tryz.underlying260
def U8 := @Go.Proofs.Tryz.underlying100
def Z6 := @Go.Proofs.Tryz.underlying200
def M4 := @Go.Proofs.Tryz.sizeOf9
def S3 := @Go.Proofs.Tryz.sizeOf253
def w7 := @Go.Proofs.Tryz.isAgg49
def Y1 := @Go.Proofs.Tryz.underlying104
def AA3 := @Go.Proofs.Tryz.isAgg4
def AD9 := @Go.Proofs.Tryz.sizeOf98
def Q6 := @Go.Proofs.Tryz.sizeOf49
def T5 := @Go.Proofs.Tryz.underlying109
def n9 := @Go.Proofs.Tryz.underlying262
def C0 := @Go.Proofs.Tryz.underlying32
def AI6 := @Go.Proofs.Tryz.underlying80
def L3 := @Go.Proofs.Tryz.sizeOf51
def S4 := @Go.Proofs.Tryz.sizeOf132
def U9 := @Go.Proofs.Tryz.underlying168
def AH5 := @Go.Proofs.Tryz.underlying102
def I9 := @Go.Proofs.Tryz.underlying169
def C9 := @Go.Proofs.Tryz.underlying26
def I0 := @Go.Proofs.Tryz.underlying99
def K4 := @Go.Proofs.Tryz.sizeOf205
def u7 := @Go.Proofs.Tryz.sizeOf200
def M9 := @Go.Proofs.Tryz.underlying49
def M5 := @Go.Proofs.Tryz.underlying101
def AA4 := @Go.Proofs.Tryz.isAgg9
def D3 := @Go.Proofs.Tryz.sizeOf168
def P4 := @Go.Proofs.Tryz.isAgg3
def AD3 := @Go.Proofs.Tryz.underlying172
def G1 := @Go.Proofs.Tryz.underlying166
def i6 := @Go.Proofs.Tryz.underlying3
def T9 := @Go.Proofs.Tryz.underlying4
def AL3 := @Go.Proofs.Tryz.underlying5
def AQ0 := @Go.Proofs.Tryz.sizeOf235
namespace Go.AV
open Go.RowKit (Below)
section
variable {P : Program} {G : Nat → Prop} {n : Nat}
def OpE (P : Program) (G : Nat → Prop) (n : Nat) (W : List Own) (ops : Array Oper) (o : Oper) (E : N1) {α : Type} (ok : α → Prop) (W' : α → List Own) (V : α → AV) : Prop :=
  ∀ w0 R0 R a w, S6 G w0 R0 W R w → a.tmps.size = n → (∀ t ∈ o.looksAt ops, ∀ y, E t = some y → y.den R (a.tmps.getD t undef)) →
    o.wp P a w (fun a' w' => ∃ x v R', ok x ∧ a' = a.put o.dst v ∧ S6 G w0 R0 (W' x) R' w' ∧ J1 R R' ∧ (V x).den R' v) (fun _ _ _ => False)
theorem OpE.congr {W : List Own} {ops : Array Oper} {o : Oper} {E E' : N1} {α : Type} {ok : α → Prop} {W' : α → List Own} {V : α → AV} (h : OpE P G n W ops o E ok W' V) (he : ∀ t ∈ o.looksAt ops, E' t = E t) : OpE P G n W ops o E' ok W' V :=
  fun w0 R0 R a w h1 h2 h3 => h w0 R0 R a w h1 h2 fun t ht y hy => h3 t ht y (by rw [he t ht]; exact hy)
def AZ8 (base W : List Own) : Prop := ∃ ext, W = base ++ ext
theorem Ak4 {own : List Own} : AZ8 own own := ⟨[], (S1 _).symm⟩
theorem CP2 {own : List Own} : AZ8 [] own := ⟨own, rfl⟩
theorem S8 {own : List Own} (k : Nat) : AZ8 (own.take k) own := ⟨own.drop k, (Aa7 k own).symm⟩
theorem Cf1 {base W ext : List Own} (h : W = base ++ ext) : AZ8 base W := ⟨ext, h⟩
theorem Cf2 {R : G4} {w : World} {v : Value} {e : TypeId} {sz : Nat} {es : List (List AV)} (h : Own.ok R w (.arr v e sz es)) : v.oneCell' = true := by
  obtain ⟨_, _, xs, hown, _⟩ := h;obtain ⟨oa, c, rfl, _⟩ := BM9 hown;rfl
theorem V0 {own : List Own} {ops : Array Oper} {o : Oper} {rs : List Oper} {K : G5 → Prop} {env : List (Nat × AV)} {v : Value} {e : TypeId} {sz : Nat} {es : List (List AV)} (i : Nat) (hi : own[i]? = some (.arr v e sz es)) (k : v.oneCell' = true → O9 P G n ops (o :: rs) ⟨own, env⟩ K) : O9 P G n ops (o :: rs) ⟨own, env⟩ K := fun w0 R0 R a w hs =>
  k (Cf2 (hs.1.owned _ (C3 hi))) w0 R0 R a w hs
theorem sq_own {own own' : List Own} {ops : Array Oper} {o : Oper} {rs : List Oper} {K : G5 → Prop} {env : List (Nat × AV)} (h : own = own') (k : O9 P G n ops (o :: rs) ⟨own', env⟩ K) : O9 P G n ops (o :: rs) ⟨own, env⟩ K := by subst h; exact k
theorem K2 {own own' : List Own} {c : Code} {Q : Exit → G5 → Prop} {env : List (Nat × AV)} (h : own = own') (k : AWP P G n c Q ⟨own', env⟩) : AWP P G n c Q ⟨own, env⟩ := by subst h; exact k
theorem BI9 {own : List Own} {o : Oper} {E : N1} {t : TypeId} {p : Operand} {b off : Nat} {fs : Array Field} {fd : Field} {k j : Nat} (m : Nat) (ho : o.op = .fieldAddr t p k) (ht : P.underlying t = some (.struct fs)) (hk : fs[k]? = some fd) (hs : ∀ w, (sizeOf fd.type).run P w = .ok (j + 1) w)
    (hp : Ev E p (AV.ptr b off)) (hm : off + fd.offset = m) : OpW P G n own o E (AV.ptr b m) := by subst hm; exact w_fldB ho ht hk hs hp
def qB (P : Program) (G : Nat → Prop) (n : Nat) (Inv : List Own → Prop) (ops : Array Oper) (i : Nat) (K : N1 → List Own → Prop) (E : N1) (W : List Own) : Prop :=
  match ops[i]? with
  | none => K E W
  | some o => (∃ x, OpA P G n W ops o E x ∧ K (AD2 o.dst x E) W) ∨
      (o.guard = none ∧ ∃ (α : Type) (ok : α → Prop) (W' : α → List Own) (V : α → AV), OpE P G n W ops o E ok W' V ∧ (∀ a, ok a → Inv (W' a)) ∧ ∀ a, ok a → K (AD2 o.dst (V a) E) (W' a))
theorem qB_mono {Inv : List Own → Prop} {ops : Array Oper} {i : Nat} {E : N1} {W : List Own} {K K' : N1 → List Own → Prop} (hW : Inv W) (h : ∀ E W, Inv W → K E W → K' E W) (hh : qB P G n Inv ops i K E W) : qB P G n Inv ops i K' E W := by
  unfold qB at *;split
  · exact h _ _ hW (by simpa [*] using hh)
  · rename_i o ho
    simp only [ho] at hh;rcases hh with ⟨x, h1, h2⟩ | ⟨hg, α, ok, W', V, h1, h2, h3⟩
    · exact .inl ⟨x, h1, h _ _ hW h2⟩
    · exact .inr ⟨hg, α, ok, W', V, h1, h2, fun a ha => h _ _ (h2 a ha) (h3 a ha)⟩
def BC1 (P : Program) (G : Nat → Prop) (n : Nat) (Inv : List Own → Prop) (md : Region.Mode) (ops : Array Oper) (m : Nat) (L : Array Bool → N1 → List Own → Prop) : Nat → Array Bool → N1 → List Own → Prop
  | 0, listed, E, W => L listed E W
  | f + 1, listed, E, W => Region.ready md ops listed ≠ [] ∧ ∀ i ∈ Region.ready md ops listed, i < m ∧ qB P G n Inv ops i (BC1 P G n Inv md ops m L f (listed.setIfInBounds i true)) E W
theorem AW2 {Inv : List Own → Prop} {md : Region.Mode} {ops : Array Oper} {m g : Nat} {L : Array Bool → N1 → List Own → Prop} (hdst : ∀ (i : Nat) (o : Oper), ops[i]? = some o → ∀ d, o.dst = some d → d < n) {w0 : World} {R0 R00 : G4} {Q' : Exit → Act → World → Prop}
    (hL : ∀ listed E W R a w, J1 R00 R → S6 G w0 R0 W R w → AR4 E R a → a.tmps.size = n → a.defers = [] → L listed E W → wpAny P md ops Q' g listed a w) : ∀ (f : Nat) (listed : Array Bool) (E : N1) (W : List Own) (R : G4) (a : Act) (w : World),
    J1 R00 R → S6 G w0 R0 W R w → AR4 E R a → a.tmps.size = n → a.defers = [] → BC1 P G n Inv md ops m L f listed E W → wpAny P md ops Q' (f + g) listed a w
  | 0, listed, E, W, R, a, w, h1, h2, h3, h4, h5, h => by rw [Nat.zero_add]; exact hL _ _ _ R a w h1 h2 h3 h4 h5 h
  | f + 1, listed, E, W, R, a, w, h1, h2, h3, h4, h5, h => by
    rw [show f + 1 + g = (f + g) + 1 by omega];refine ⟨fun h0 => absurd h0 h.1, fun i hi => ?_⟩;have hq := (h.2 i hi).2;unfold qB at hq;unfold wpOp
    cases ho : ops[i]? with
    | none =>
      simp only [ho] at hq;exact AW2 hdst hL f _ E W R a w h1 h2 h3 h4 h5 hq
    | some o =>
      simp only [ho] at hq;have hdo : ∀ k, o.dst = some k → k < a.tmps.size := fun k e => by rw [h4]; exact hdst i o ho k e
      rcases hq with ⟨x, hx, hk⟩ | ⟨hg, α, ok, W', V, hx, _, hk⟩
      · obtain ⟨k1, k2⟩ := hx w0 R0 R a w h2 h4 fun t _ y hy => h3 t y hy
        by_cases hw : Region.wanted o (yielded ops a.tmps) = true
        · simp only [hw, if_true]
          refine .inl (Oper.wp_mono2 (fun a' w' ⟨v, R', e1, e2, e3, e4⟩ => ?_) (fun _ _ _ h => h.elim) (k1 hw));subst e1;exact AW2 hdst hL f _ (AD2 o.dst x E) W R' _ w' (h1.trans e3) e2 (AJ8 h3 e3 hdo e4) BL7 BL8 hk
        · have hwf : Region.wanted o (yielded ops a.tmps) = false := by simpa using hw
          simp only [hwf, Bool.false_eq_true, if_false];exact AW2 hdst hL f _ (AD2 o.dst x E) W R _ w h1 h2 (AJ8 h3 (J1.refl _) hdo (k2 hwf)) BL7 BL8 hk
      · have hw : Region.wanted o (yielded ops a.tmps) = true := Bf4 hg
        simp only [hw, if_true];refine .inl (Oper.wp_mono2 (fun a' w' ⟨x, v, R', e0, e1, e2, e3, e4⟩ => ?_) (fun _ _ _ h => h.elim) (hx w0 R0 R a w h2 h4 fun t _ y hy => h3 t y hy));subst e1;exact AW2 hdst hL f _ (AD2 o.dst (V x) E) (W' x) R' _ w' (h1.trans e3) e2 (AJ8 h3 e3 hdo e4) BL7 BL8 (hk x e0)
theorem qB_put {Inv : List Own → Prop} {ops : Array Oper} {j : Nat} {oi oj : Oper} {x : AV} {W : List Own} (hj : ops[j]? = some oj) (hap : oi.apart ops oj = true) {K : N1 → List Own → Prop} {E : N1} (hW : Inv W)
    (hy : ∀ W, Inv W → OpA P G n W ops oi E x) (h : qB P G n Inv ops j K (AD2 oi.dst x E) W) :
    qB P G n Inv ops j (fun E' W' => (∀ W, Inv W → OpA P G n W ops oi E' x) ∧ K (AD2 oi.dst x E') W') E W := by
  obtain ⟨h1, h2, h3⟩ := Oper.apart_spec hap;unfold qB at *;simp only [hj] at *;rcases h with ⟨y, hu, hn⟩ | ⟨hg, α, ok, W', V, hu, hi, hn⟩
  · exact .inl ⟨y, hu.unupd h1, fun W hW => (hy W hW).upd h3, by rw [BU3 h2]; exact hn⟩
  · exact .inr ⟨hg, α, ok, W', V, hu.congr fun t ht => (AM2 fun e => h1 t e ht).symm, hi, fun a ha => ⟨fun W hW => (hy W hW).upd h3, by rw [BU3 h2]; exact hn a ha⟩⟩
theorem BA5 {Inv : List Own → Prop} {md : Region.Mode} {ops : Array Oper} {m i : Nat} {oi : Oper} {x : AV} {L : Array Bool → N1 → List Own → Prop} (hi : ops[i]? = some oi)
    (hs : Region.sinkB md ops m = true) (hc : Region.chainB md ops m = true) (hn : m < ops.size) (hin : i < m)
    (hdone : ∀ listed E W, L listed E W → ∀ j ∈ Region.ready md ops listed, m ≤ j) :
    ∀ (f : Nat) (listed : Array Bool) (E : N1) (W : List Own), HeadInv md ops m listed → Inv W →
      (∀ j oj, ops[j]? = some oj → j ≠ i → listed.getD j true = false → (∀ e ∈ oj.after, Region.binds md e = true → e.on ≠ i) → oi.apart ops oj = true) →
      i ∈ Region.ready md ops listed → (∀ W, Inv W → OpA P G n W ops oi E x) →
      BC1 P G n Inv md ops m L f (listed.setIfInBounds i true) (AD2 oi.dst x E) W → BC1 P G n Inv md ops m L (f + 1) listed E W := by
  have put : ∀ {K : N1 → List Own → Prop} {E : N1} {W : List Own}, Inv W → (∀ W, Inv W → OpA P G n W ops oi E x) → K (AD2 oi.dst x E) W → qB P G n Inv ops i K E W := fun hW hy hK => by
    unfold qB;simp only [hi];exact .inl ⟨x, hy _ hW, hK⟩
  intro f;induction f with
  | zero =>
    intro listed E W inv hW _ hr hy H;have hun := (mem_ready.1 hr).1;refine ⟨fun h => Bb1, fun j hj => ?_⟩;have hjn : j < m := by
      rcases Nat.lt_or_ge j m with h | h
      · exact h
      · exact absurd hj (tail_waits hs hc hn inv _ i rfl hin hun j h)
    refine ⟨hjn, ?_⟩;by_cases hji : j = i
    · subst hji; exact put hW hy H
    · have := hdone _ _ _ H j (ready_mono hj hji)
      omega
  | succ f ih =>
    intro listed E W inv hW hfree hr hy H;have hun := (mem_ready.1 hr).1;refine ⟨fun h => Bb1, fun j hj => ?_⟩;have hjn : j < m := by
      rcases Nat.lt_or_ge j m with h | h
      · exact h
      · exact absurd hj (tail_waits hs hc hn inv _ i rfl hin hun j h)
    refine ⟨hjn, ?_⟩;by_cases hji : j = i
    · subst hji; exact put hW hy H
    · have h1 := (H.2 j (ready_mono hj hji)).2
      obtain ⟨hjun, oj, hoj, hall⟩ := mem_ready.1 hj;have hnot : ∀ e ∈ oj.after, Region.binds md e = true → e.on ≠ i := fun e he hb heq => by
        have h1 := hall e he hb;rw [heq, getD_both hun] at h1
        cases h1
      have h2 := qB_put hoj (hfree j oj hoj hji hjun hnot) hW hy h1
      have hfree' : ∀ k ok, ops[k]? = some ok → k ≠ i → (listed.setIfInBounds j true).getD k true = false →
          (∀ e ∈ ok.after, Region.binds md e = true → e.on ≠ i) → oi.apart ops ok = true := fun k ok hk hki hun hno => by
        refine hfree k ok hk hki ?_ hno;by_cases hjk : j = k
        · subst hjk; exact hjun
        · rw [getD_set_ne true hjk] at hun; exact hun
      refine qB_mono hW (fun E' W' hW' h3 => ih (listed.setIfInBounds j true) E' W' (inv.set hj hjn) hW' hfree' (ready_mono hr (Ne.symm hji)) h3.1 ?_) h2;rw [Array.setIfInBounds_comm _ _ hji];exact h3.2
def Bz5 (md : Region.Mode) (ops : Array Oper) (g m : Nat) : List (Nat × Bool) → Array Bool → Bool
  | [], listed => Region.seqB md ops g m listed
  | (i, false) :: r, listed => (Region.ready md ops listed).contains i && Region.free md ops listed i && Nat.blt i m && Bz5 md ops g m r (listed.setIfInBounds i true)
  | (i, true) :: r, listed => decide (Region.ready md ops listed = [i]) && Nat.blt i m && Bz5 md ops g m r (listed.setIfInBounds i true)
def mixB (md : Region.Mode) (ops : Array Oper) (ord : List (Nat × Bool)) : Bool :=
  decide (ord.length < ops.size) && Region.sinkB md ops ord.length && Region.chainB md ops ord.length && Bz5 md ops (ops.size - ord.length) ord.length ord (Array.replicate ops.size false)
def BCh (P : Program) (G : Nat → Prop) (n : Nat) (Inv : List Own → Prop) (ops : Array Oper) : List (Nat × Bool) → List (Nat × AV) → List Own → (List (Nat × AV) → List Own → Prop) → Prop
  | [], env, W, K => K env W
  | (i, false) :: r, env, W, K => ∃ o, ops[i]? = some o ∧ ∃ x, (∀ W', Inv W' → OpA P G n W' ops o (M0 · env) x) ∧ BCh P G n Inv ops r (BH7 o.dst x env) W K
  | (i, true) :: r, env, W, K => ∃ o, ops[i]? = some o ∧ o.guard = none ∧ ∃ (α : Type) (ok : α → Prop) (W' : α → List Own) (V : α → AV), OpE P G n W ops o (M0 · env) ok W' V ∧ (∀ a, ok a → Inv (W' a)) ∧ ∀ a, ok a → BCh P G n Inv ops r (BH7 o.dst (V a) env) (W' a) K
theorem BN7 {Inv : List Own → Prop} {md : Region.Mode} {ops : Array Oper} {m g : Nat} {K : List (Nat × AV) → List Own → Prop} (hs : Region.sinkB md ops m = true) (hc : Region.chainB md ops m = true) (hn : m < ops.size) :
    ∀ (l : List (Nat × Bool)) (listed : Array Bool) (env : List (Nat × AV)) (W : List Own), HeadInv md ops m listed → Inv W →
    Bz5 md ops g m l listed = true → BCh P G n Inv ops l env W K →
    BC1 P G n Inv md ops m (fun listed' E W => Region.seqB md ops g m listed' = true ∧ ∃ env', E = (M0 · env') ∧ K env' W) l.length listed (M0 · env) W
  | [], listed, env, W, _, _, hB, h => ⟨hB, env, rfl, h⟩
  | (i, false) :: l, listed, env, W, inv, hW, hB, h => by
    simp only [Bz5, F0] at hB;obtain ⟨⟨⟨hr, hf⟩, hlt⟩, hB'⟩ := hB;have hkn : i < m := Nat.blt_eq.mp hlt;have hr' : i ∈ Region.ready md ops listed := by simpa using hr
    obtain ⟨o, ho, x, hx, hK⟩ := h;refine BA5 ho hs hc hn hkn (fun listed' E W hL => seqB_ready hL.1) l.length listed _ W inv hW (Region.free_spec ho hf) hr' hx ?_;rw [← n6];exact BN7 hs hc hn l _ _ W (inv.set hr' hkn) hW hB' hK
  | (i, true) :: l, listed, env, W, inv, hW, hB, h => by
    simp only [Bz5, F0, I4] at hB;obtain ⟨⟨hr, hlt⟩, hB'⟩ := hB;have hkn : i < m := Nat.blt_eq.mp hlt;have hr' : i ∈ Region.ready md ops listed := by rw [hr]; simp
    obtain ⟨o, ho, hg, α, ok, W', V, h1, h2, h3⟩ := h;refine ⟨fun h0 => Bb2, fun j hj => ?_⟩;rw [hr] at hj;have : j = i := by simpa using hj
    subst this;refine ⟨hkn, ?_⟩;unfold qB;simp only [ho];refine .inr ⟨hg, α, ok, W', V, h1, h2, fun a ha => ?_⟩;rw [← n6];exact BN7 hs hc hn l _ _ (W' a) (inv.set hr' hkn) (h2 a ha) hB' (h3 a ha)
theorem P3 {id : Nat} {l : List Oper} {Q : Exit → G5 → Prop} {env : List (Nat × AV)} {own : List Own} (base : List Own) (ord : List (Nat × Bool)) (hm : P.follows .mixedOrders = true) (hB : mixB .any l.toArray ord = true) (hd : Bd5 n l = true) (hb : AZ8 base own)
  (h : BCh P G n (AZ8 base) l.toArray ord env own (fun env' W => O9 P G n l.toArray (l.drop ord.length) ⟨W, env'⟩ (Q .normal))) : AWP P G n (.region id l.toArray true) Q ⟨own, env⟩ := fun w0 R0 R a w ⟨h1, h2, h3, h4⟩ => by
 simp only [mixB, F0, I4] at hB;obtain ⟨⟨⟨hn, hs⟩, hc⟩, hlex⟩ := hB;have hn' : ord.length < l.length := by simpa using hn
 have hdl : (l.drop ord.length).length = l.toArray.size - ord.length := by simp
 have inv0 : HeadInv .any l.toArray ord.length (Array.replicate l.toArray.size false) :=
  ⟨by simp, fun j oj _ hl => CL3, fun t _ ht => getD_in (by simpa using ht) (getD_replicate_false _ _)⟩
 have H := BN7 (g := l.toArray.size - ord.length) hs hc hn ord _ env own inv0 hb hlex h;refine wp_region_any hm ?_;have := AW2 (w0 := w0) (R0 := R0) (R00 := R) (g := l.toArray.size - ord.length) (Q' := fun e a' w' => ∃ s' R', Q e s' ∧ J1 R R' ∧ St G n w0 R0 s' R' a' w') (fun i o ho d e => Am0 hd i o (by simpa using ho) d e) (fun listed E W R' a' w' g1 g2 g3 g4 g5 hL => by
  obtain ⟨hL1, env', rfl, hL2⟩ := hL
  have := wpAny_of_seq (P := P) (md := .any) (Q' := fun e a' w' => ∃ s' R', Q e s' ∧ J1 R R' ∧ St G n w0 R0 s' R' a' w') (l.drop ord.length) ord.length listed a' w' (fun j => by simp [AX2]) (by rw [hdl]; exact hL1)
   (AL7 (R00 := R) (K := Q .normal) (fun s' R' a w q r1 r2 => ⟨s', R', q, r1, r2⟩) _ (⟨W, env'⟩ : G5) R' a' w' g1 ⟨g2, g3, g4, g5⟩ hL2)
  rwa [hdl] at this) _ _ _ own R a _ (J1.refl _) (Aj8 h1) h2 h3 h4 H
 rw [show ord.length + (l.toArray.size - ord.length) = l.toArray.size by omega] at this;exact this
section
variable {ops : Array Oper} {i : Nat} {o : Oper} {r : List (Nat × Bool)} {env : List (Nat × AV)} {W : List Own} {base : List Own} {K : List (Nat × AV) → List Own → Prop} {d : Nat} {x : AV}
theorem bc_nil {Inv : List Own → Prop} (h : K env W) : BCh P G n Inv ops [] env W K := h
theorem P1 (ho : ops[i]? = some o) (hg : o.guard = none) (hd : o.dst = some d) (h : ∀ ext, OpW P G n (base ++ ext) o (M0 · env) x) (k : BCh P G n (AZ8 base) ops r ((d, x) :: env) W K) : BCh P G n (AZ8 base) ops ((i, false) :: r) env W K :=
  ⟨o, ho, x, fun W' ⟨ext, e⟩ => by subst e; exact At5 hg (h ext), by rw [hd]; exact k⟩
theorem U2 {Inv : List Own → Prop} {α : Type} {ok : α → Prop} {W' : α → List Own} {V : α → AV} (ho : ops[i]? = some o) (hg : o.guard = none) (hd : o.dst = some d) (h : OpE P G n W ops o (M0 · env) ok W' V) (hi : ∀ a, ok a → Inv (W' a)) (k : ∀ a, ok a → BCh P G n Inv ops r ((d, V a) :: env) (W' a) K) : BCh P G n Inv ops ((i, true) :: r) env W K :=
  ⟨o, ho, hg, α, ok, W', V, h, hi, fun a ha => by rw [hd]; exact k a ha⟩
section
variable {α : Type} {ok : α → Prop} {O : α → List Own} {V : α → AV} {E : N1} {f : FuncId} {args : Array Operand} {tys : Array TypeId} {ps : List Operand} {xs : List AV} {sel rest : List Own}
theorem Ap3 {p : Operand} {R : G4} {a : Act} (hev : Ev E p x) (hm : p ∈ o.op.operands.toList) (he : ∀ t ∈ o.looksAt ops, ∀ y, E t = some y → y.den R (a.tmps.getD t undef)) : x.den R (a.eval p) :=
  G0 hev hm fun t ht => he t (Al9 ht)
theorem S5 (is : List Nat) (ho : o.op = .call { callee := .value (.func f), args := args, argTypes := tys })
    (hc : ∀ (vs : Array Value) (w : World), (callFunc f vs).run P w = .ok (.enter f vs) w) (hps : args.toList = ps) (hs : K0 P f xs sel ok O V) (he : EvL E ps xs) (hp : pick W is = (sel, rest)) :
    OpE P G n W ops o E ok (fun a => rest ++ O a) V := fun w0 R0 R a w h1 h3 h2 => by
  have hcore := AV3 h1 hp;have hden := Ad2 (o := o) (fun t ht => h2 t (Al9 ht)) he fun p hp => by simp [ho, Op.operands, Call.operands]; right; rw [← hps] at hp; exact Array.mem_toList_iff.1 hp
  have hrun : (execOp a.eval o).run P w = .ok (.enter f (ps.map a.eval).toArray) w := by
    have hargs : args.map a.eval = (ps.map a.eval).toArray := by rw [← hps]; cases args; simp
    simp only [execOp, ho, resolve, hargs, show a.eval (.func f) = .func (.func f) #[] #[] from rfl];simp [Deferred.ofValue, invoke, hc]
  unfold Oper.wp;rw [hrun, Oper.upon_enter];refine (hs R w _ hcore.rle hden (fun q hq => hcore.owned q (AS9 _ hq)) (m5 hcore).sep).mono fun e w' ⟨x, v, R', e0, e1, e2, e3⟩ => ?_;subst e1;exact ⟨x, v, R', e0, rfl, AB3 (Am2 hcore e3) AM5, AP7 hcore.rle e3.rold, e2⟩
end
end
end
section
variable {P : Program} {G : Nat → Prop} {n : Nat} {own : List Own} {o : Oper} {E : N1}
end
section
variable {P : Program} {G : Nat → Prop} {n : Nat} {own : List Own} {o : Oper} {E : N1}
theorem Bj4 {c : Code} {Q : Exit → G5 → Prop} {env : List (Nat × AV)} {v : Value} {e : TypeId} {sz : Nat} {es : List (List AV)} (i : Nat) (hi : own[i]? = some (.arr v e sz es)) (k1 : v = .slice none 0 0 → es = [] → AWP P G n c Q ⟨own, env⟩)
  (k2 : ∀ g cap, v = .slice (some ⟨g, 0, none⟩) es.length cap → es.length ≤ cap → cap ≤ 9223372036854775807 → AWP P G n c Q ⟨own, env⟩) : AWP P G n c Q ⟨own, env⟩ := fun w0 R0 R a w hs => by
 obtain ⟨_, _, xs, hown, _⟩ := hs.1.owned _ (C3 hi);rcases hown.2 with ⟨h1, h2⟩ | ⟨g, cap, cur, h1, _, _, hn, hm, _⟩
 ·exact k1 h1 (As7 h2) w0 R0 R a w hs
 exact k2 g cap h1 hn (by unfold maxLen at hm; omega) w0 R0 R a w hs
abbrev slv (g len cap : Nat) : Value := .slice (some ⟨g, 0, none⟩) len cap
section vals
variable {t e : TypeId} {p q q' q'' : Operand} {g len cap sz : Nat}
theorem CP3 {oa : Option Addr} (ho : o.op = .call { callee := .builtin .len, args := #[p], argTypes := #[t] }) (ht : P.underlying t = some (.slice e)) (hp : Ev E p (AV.is (.slice oa len cap))) : OpW P G n own o E (AV.int len) := N0 fun R a w _ he => by
  have h1 : a.eval p = _ := G0 hp Al5 he;have hel : P.elem t = e := by simp [Program.elem, ht]
  have h2 := run_len_slice (P := P) w t o.type oa len cap AT3;exact ⟨.int .i64 len, by simp only [execOp, ho, resolve, invoke, builtin, AP1, T3, List.map_nil, h1, h2, Sem.run_bind, Sem.run_pure, Result.andThen_ok, goInt], rfl⟩
theorem w_vcap {oa : Option Addr} (ho : o.op = .call { callee := .builtin .cap, args := #[p], argTypes := #[t] }) (ht : P.underlying t = some (.slice e)) (hp : Ev E p (AV.is (.slice oa len cap))) : OpW P G n own o E (AV.int cap) := N0 fun R a w _ he => by
  have h1 : a.eval p = _ := G0 hp Al5 he;have hel : P.elem t = e := by simp [Program.elem, ht]
  have h2 := run_cap_slice (P := P) w t o.type oa len cap AT3;exact ⟨.int .i64 cap, by simp only [execOp, ho, resolve, invoke, builtin, AP1, T3, List.map_nil, h1, h2, Sem.run_bind, Sem.run_pure, Result.andThen_ok, goInt], rfl⟩
theorem Bf7 (g hi cap sz : Nat) : sliced (some ⟨g, 0, none⟩) 0 hi cap sz = slv g hi cap := by
  unfold sliced;by_cases hc : cap = 0
  · simp [hc]
  · simp [hc, Addr.add]
theorem w_vhi {hi : Int} (ho : o.op = .slice t p none (some q) none) (ht : P.underlying t = some (.slice e)) (hsz : ∀ w, (sizeOf e).run P w = .ok sz w) (hp : Ev E p (AV.is (slv g len cap))) (hq : Ev E q (AV.int hi)) (h0 : 0 ≤ hi) (h1 : hi ≤ cap) : OpW P G n own o E (AV.is (slv g hi.toNat cap)) := N0 fun R a w _ he => by
  have e1 : a.eval p = _ := G0 hp M8 he;have e2 : a.eval q = .int .i64 hi := G0 hq M8 he;have hel : P.elem t = e := by simp [Program.elem, ht]
  have hr1 := run_slice_h (P := P) (w := w) (t := t) (a := some ⟨g, 0, none⟩) (len := len) (cap := cap) AT3 .i64 hi h0 h1;rw [hel, hsz, Result.andThen_ok, Bf7] at hr1;exact ⟨_, by simp only [execOp, ho, e1, e2, AB2, Option.map_none, run_sliceAt_slice w t _ _ _ _ AT3, hr1, Sem.run_bind, Sem.run_pure, Result.andThen_ok], rfl⟩
theorem BD8 {lo : Int} (ho : o.op = .slice t p (some q) none none) (ht : P.underlying t = some (.slice e)) (hsz : ∀ w, (sizeOf e).run P w = .ok sz w) (hp : Ev E p (AV.is (slv g len cap))) (hq : Ev E q (AV.int lo)) (h0 : 0 ≤ lo) (h1 : lo ≤ len) : OpW P G n own o E (AV.is (sliced (some ⟨g, 0, none⟩) lo.toNat len cap sz)) := N0 fun R a w _ he => by
  have e1 : a.eval p = _ := G0 hp M8 he;have e2 : a.eval q = .int .i64 lo := G0 hq M8 he;have hel : P.elem t = e := by simp [Program.elem, ht]
  have hr1 := run_slice_l (P := P) (w := w) (t := t) (a := some ⟨g, 0, none⟩) (len := len) (cap := cap) AT3 .i64 lo h0 h1;rw [hel, hsz, Result.andThen_ok] at hr1;exact ⟨_, by simp only [execOp, ho, e1, e2, AB2, Option.map_none, run_sliceAt_slice w t _ _ _ _ AT3, hr1, Sem.run_bind, Sem.run_pure, Result.andThen_ok], rfl⟩
end vals
theorem BS4 (w : World) (dT sT ty elem : TypeId) {inf : TypeInfo} (g o dLen dCap : Nat) (a : Addr) (sLen sCap : Nat) (cur : Array Value) (t : TypeId) (cs : List Value)
    (hu : P.underlying dT = some (.slice elem)) (hi : P.info? elem = some inf)
    (hg : w.heap[g]? = some (.cells cur t (0, 0))) (hn : cs.length = Nat.min sLen dLen * inf.size)
    (hsrc : ∀ j v, cs[j]? = some v → w.cell? (a.add j) = some v) (hfit : o + cs.length ≤ cur.size) (h1 : ∀ v ∈ cs, v.oneCell' = true) :
    (Builtin.copy_ #[dT, sT] ty #[.slice (some ⟨g, o, none⟩) dLen dCap, .slice (some a) sLen sCap]).run P w =
      .ok (goInt (Nat.min sLen dLen)) (w.setRow g (cur.toList.take o ++ cs ++ cur.toList.drop (o + cs.length)).toArray) := by
  have hl := run_loadCells_list (P := P) w a cs hsrc;have hst := run_storeCells_at P g o t cs 0 cur w hg (by simpa using hfit) h1;simp [Builtin.copy_, run_underlying hu, Builtin.lenOf, Builtin.firstCells, sizeOf, typeInfo, hi, ← hn, hl, hst]
def L6 (own : List Own) (E : N1) (q : Operand) (sz : Nat) (fs : List (List AV)) : Prop :=
  ∀ (G : Nat → Prop) (w0 : World) (R0 R : G4) (a : Act) (w : World), S6 G w0 R0 own R w → (∀ t, q = .tmp t → ∀ y, E t = some y → y.den R (a.tmps.getD t undef)) →
    (∀ f ∈ fs, f.length = sz) ∧ (fs ≠ [] → ∃ ad cap vs, a.eval q = .slice (some ad) fs.length cap ∧ (∀ j u, vs[j]? = some u → w.cell? (ad.add j) = some u) ∧ n5 R vs fs.flatten)
theorem Ap4 {R : G4} {w : World} {g len cap : Nat} {e : TypeId} {sz : Nat} {es : List (List AV)} (h : Own.ok R w (.arr (slv g len cap) e sz es)) : len = es.length ∧ len ≤ cap ∧ cap ≤ maxLen ∧ (∀ x ∈ es, x.length = sz) ∧ ∃ (cur : Array Value) (xs : List Value), w.heap[g]? = some (.cells cur e (0, 0)) ∧ cur.size = cap * sz ∧ cur.toList.take (len * sz) = xs ∧ xs.length = len * sz ∧ n5 R xs es.flatten := by
  obtain ⟨_, hu, xs, hown, hd⟩ := h;rcases hown.2 with ⟨h1, _⟩ | ⟨g', cap', cur, h1, _, hg, hn, hm, hcs, htake⟩
  · cases h1
  · injection h1 with e1 e2 e3
    injection e1 with e1
    injection e1 with e1
    subst e1; subst e2; subst e3;exact ⟨rfl, hn, hm, hu, cur, xs, hg, hcs, htake, hown.1, hd⟩
theorem Cf3 {q : Operand} {g len cap k : Nat} {e : TypeId} {sz : Nat} {es : List (List AV)} (i : Nat) (hi : own[i]? = some (.arr (slv g len cap) e sz es)) (hq : Ev E q (AV.is (sliced (some ⟨g, 0, none⟩) k len cap sz))) : L6 own E q sz (es.drop k) := fun G w0 R0 R a w hc he => by
  have e1 : a.eval q = _ := hq R a he;obtain ⟨hl, hlc, _, hu, cur, xs, hg, hcs, htake, hxl, hd⟩ := Ap4 (hc.owned _ (C3 hi));refine ⟨fun f hf => hu f (List.mem_of_mem_drop hf), fun hne => ?_⟩;have hk : k < es.length := by
    rcases Nat.lt_or_ge k es.length with h | h
    · exact h
    · exact absurd (l6 h) hne
  refine ⟨⟨g, k * sz, none⟩, cap - k, xs.drop (k * sz), ?_, fun j u hu' => ?_, ?_⟩
  · rw [e1]; unfold sliced
    rw [D4 qz8, AB2, addr_add, Nat.zero_add, w4, hl]
  · rw [AX2] at hu'
    have hjl : k * sz + j < len * sz := by rw [← hxl]; exact (F4.1 hu').1
    rw [addr_add];rw [← htake, AI0 hjl, Array.getElem?_toList] at hu';simp [World.cell?, hg, hu']
  · rw [AT7 k hu]
    exact ⟨by simp [hd.1], fun j v x hv hx => hd.2 _ v x (by rw [AX2] at hv; exact hv) (by rw [AX2] at hx; exact hx)⟩
theorem BN8 {q : Operand} {g len cap : Nat} {e : TypeId} {sz : Nat} {es : List (List AV)} (i : Nat) (hi : own[i]? = some (.arr (slv g len cap) e sz es)) (hq : Ev E q (AV.is (slv g len cap))) : L6 own E q sz es := by
  have := Cf3 (k := 0) i hi (by rw [Bf7]; exact hq)
  rwa [List.drop_zero] at this
theorem Bf8 {g k m cap sz : Nat} (h : k < m) (hc : m ≤ cap) : sliced (some ⟨g, 0, none⟩) k m cap sz = .slice (some ⟨g, k * sz, none⟩) (m - k) (cap - k) := by
  unfold sliced;rw [D4 qz8, AB2, addr_add, Nat.zero_add]
theorem CP4 {sz k : Nat} {es fs : List (List AV)} (hu : ∀ e ∈ es, e.length = sz) (hf : ∀ f ∈ fs, f.length = sz) : (es.take k ++ fs ++ es.drop (k + fs.length)).flatten = AK7 es.flatten (k * sz) fs.flatten := by
  rw [Ae5, Ae5, AJ9 k hu, AT7 (k + fs.length) hu];unfold AK7;rw [o9 hf, Nat.add_mul]
theorem Bw4 {ops : Array Oper} {rest : List Oper} {env : List (Nat × AV)} {K : G5 → Prop} {t e : TypeId} {p q : Operand} {d sz g len cap k m : Nat} {inf : TypeInfo} {es fs : List (List AV)} (i : Nat) (hg : o.guard = none) (ho : o.op = .call { callee := .builtin .copy, args := #[p, q], argTypes := #[t, t] }) (hd : o.dst = some d) (hn : Nat.blt d n = true)
    (ht : P.underlying t = some (.slice e)) (hinf : P.info? e = some inf) (hsz : inf.size = sz) (hp : Ev (M0 · env) p (AV.is (sliced (some ⟨g, 0, none⟩) k m cap sz))) (hq : L6 own (M0 · env) q sz fs) (hi : own[i]? = some (.arr (slv g len cap) e sz es))
    (hk : k + fs.length ≤ len) (hm : k + fs.length ≤ m) (hmc : m ≤ cap) (hne : fs ≠ []) (c : O9 P G n ops rest ⟨own.set i (.arr (slv g len cap) e sz (es.take k ++ fs ++ es.drop (k + fs.length))), (d, AV.int fs.length) :: env⟩ K) : O9 P G n ops (o :: rest) ⟨own, env⟩ K :=
  o4 hg fun w0 R0 R a w ⟨h1, h2, h3, h4⟩ => by
    have e1 : a.eval p = _ := AE1 (s := ⟨own, env⟩) (o := o) hp h2;obtain ⟨hfu, hsrc⟩ := hq G w0 R0 R a w h1 (fun t _ y hy => h2 t y hy);obtain ⟨ad, sc, vs, e2, hcell, hden⟩ := hsrc hne;have hpos : 0 < fs.length := List.length_pos_iff.2 hne;have hok := h1.owned _ (C3 hi);obtain ⟨hl, hlc, hcm, hu, cur, xs, hgw, hcs, htake, hxl, hdc⟩ := Ap4 hok;rw [Bf8 qz8 hmc] at e1;have hvl : vs.length = fs.length * sz := by rw [hden.1, o9 hfu]
    have hmin : Nat.min fs.length (m - k) = fs.length := Nat.min_eq_left qz8;have hone : ∀ u ∈ vs, u.oneCell' = true := fun u hmu => by
      obtain ⟨j, hj⟩ := j4 hmu;have hjl : j < fs.flatten.length := by rw [← hden.1]; exact (F4.1 hj).1
      exact (hden.2 j u _ hj (O1 hjl)).2
    have hb1 : k * sz + fs.length * sz ≤ len * sz := by rw [← Nat.add_mul]; exact AE3 sz hk
    have hb2 : len * sz ≤ cap * sz := AE3 sz hlc;have hr := BS4 (P := P) w t t o.type e g (k * sz) (m - k) (cap - k) ad fs.length sc cur e vs ht hinf hgw (by rw [hmin, hsz]; exact hvl) hcell (by rw [hvl, hcs]; omega) hone;rw [hmin] at hr;have hex : (execOp a.eval o).run P w = .ok (.value (.int .i64 fs.length)) (w.setRow g (cur.toList.take (k * sz) ++ vs ++ cur.toList.drop (k * sz + vs.length)).toArray) := by
      simp only [execOp, ho, resolve, invoke, builtin, Sem.run_bind, Sem.run_pure, Result.andThen_ok, AP1, T3, List.map_nil, e1, e2, hr, goInt]
    unfold Oper.wp;rw [hex, Oper.upon_value, hd];have hel : (es.take k ++ fs ++ es.drop (k + fs.length)).length = len := by simp; omega
    refine ⟨_, R, c, J1.refl _, AL8 h1 hi rfl rfl ⟨hok.1, fun z hz => ?_, xs.take (k * sz) ++ vs ++ xs.drop (k * sz + vs.length), ⟨?_, .inr ⟨g, cap, _, by rw [hel], D6 _, setRow_heap w g _ _ e _ hgw, by rw [hel]; exact hlc, hcm, ?_, ?_⟩⟩, ?_⟩ (AN7 w g _), AC5 h2 (J1.refl _) AV7 rfl, by rw [size_put]; exact h3, by rw [V6]; exact h4⟩
    · rcases Z7.1 hz with hz | hz
      · rcases Z7.1 hz with hz | hz
        · exact hu z (An6 hz)
        · exact hfu z hz
      · exact hu z (List.mem_of_mem_drop hz)
    · rw [hel]; simp only [G3, I5, w4, hxl, hvl]; omega
    · simp only [List.size_toArray, G3, I5, w4, AF4, hvl, hcs]; omega
    · rw [hel, ← htake]
      exact Bf5 (by rw [AF4, hcs]; exact hb2) (by rw [hvl]; exact hb1)
    · rw [CP4 hu hfu]
      exact Af7 hdc hden (by rw [o9 hu, o9 hfu, ← hl]; exact hb1)
theorem sq_shift {ops : Array Oper} {rest : List Oper} {env : List (Nat × AV)} {K : G5 → Prop} {t e : TypeId} {p q : Operand} {d sz g len cap k : Nat} {inf : TypeInfo} {es : List (List AV)} (i : Nat) (hg : o.guard = none) (ho : o.op = .call { callee := .builtin .copy, args := #[p, q], argTypes := #[t, t] }) (hd : o.dst = some d) (hn : Nat.blt d n = true)
    (ht : P.underlying t = some (.slice e)) (hinf : P.info? e = some inf) (hsz : inf.size = sz) (hp : Ev (M0 · env) p (AV.is (sliced (some ⟨g, 0, none⟩) (k + 1) (len + 1) cap sz))) (hq : Ev (M0 · env) q (AV.is (sliced (some ⟨g, 0, none⟩) k (len + 1) cap sz))) (hi : own[i]? = some (.arr (slv g len cap) e sz es))
    (hk : k < len) (hc : len + 1 ≤ cap) (c : ∀ j, O9 P G n ops rest ⟨own.set i (.arr (slv g (len + 1) cap) e sz (es.take (k + 1) ++ es.drop k)), (d, AV.int j) :: env⟩ K) : O9 P G n ops (o :: rest) ⟨own, env⟩ K :=
  o4 hg fun w0 R0 R a w ⟨h1, h2, h3, h4⟩ => by
    have e1 : a.eval p = _ := AE1 (s := ⟨own, env⟩) (o := o) hp h2;have e2 : a.eval q = _ := AE1 (s := ⟨own, env⟩) (o := o) hq h2;have hok := h1.owned _ (C3 hi);obtain ⟨hl, hlc, hcm, hu, cur, xs, hgw, hcs, htake, hxl, hdc⟩ := Ap4 hok;rw [Bf8 qz8 hc] at e1 e2;have hmin : Nat.min (len + 1 - k) (len + 1 - (k + 1)) = len - k := by
      show min (len + 1 - k) (len + 1 - (k + 1)) = len - k
      omega
    have hb1 : (k + 1) * sz + (len - k) * sz = (len + 1) * sz := by rw [← Nat.add_mul]; congr 1; omega
    have hb2 : (len + 1) * sz ≤ cap * sz := AE3 sz hc;have hb3 : (k + 1) * sz ≤ len * sz := AE3 sz qz8;have hb4 : len * sz ≤ cap * sz := AE3 sz hlc;have hvl : (xs.drop (k * sz)).length = (len - k) * sz := by rw [w4, hxl, Nat.sub_mul]
    have hone : ∀ u ∈ xs.drop (k * sz), u.oneCell' = true := fun u hmu => by
      obtain ⟨j, hj⟩ := j4 (List.mem_of_mem_drop hmu);have hjl : j < es.flatten.length := by rw [← hdc.1]; exact (F4.1 hj).1
      exact (hdc.2 j u _ hj (O1 hjl)).2
    have hcell : ∀ j u, (xs.drop (k * sz))[j]? = some u → w.cell? ((⟨g, k * sz, none⟩ : Addr).add j) = some u := fun j u hu' => by
      rw [AX2] at hu';have hjl : k * sz + j < len * sz := by rw [← hxl]; exact (F4.1 hu').1
      rw [addr_add];rw [← htake, AI0 hjl, Array.getElem?_toList] at hu';simp [World.cell?, hgw, hu']
    have hr := BS4 (P := P) w t t o.type e g ((k + 1) * sz) (len + 1 - (k + 1)) (cap - (k + 1)) ⟨g, k * sz, none⟩ (len + 1 - k) (cap - k) cur e (xs.drop (k * sz)) ht hinf hgw (by rw [hmin, hsz]; exact hvl) hcell (by rw [hvl, hcs]; omega) hone;rw [hmin] at hr;have hex : (execOp a.eval o).run P w = .ok (.value (.int .i64 ((len - k : Nat) : Int))) (w.setRow g (cur.toList.take ((k + 1) * sz) ++ xs.drop (k * sz) ++ cur.toList.drop ((k + 1) * sz + (xs.drop (k * sz)).length)).toArray) := by
      simp only [execOp, ho, resolve, invoke, builtin, Sem.run_bind, Sem.run_pure, Result.andThen_ok, AP1, T3, List.map_nil, e1, e2, hr, goInt]
    unfold Oper.wp;rw [hex, Oper.upon_value, hd];have hel : (es.take (k + 1) ++ es.drop k).length = len + 1 := by simp; omega
    refine ⟨_, R, c _, J1.refl _, AL8 h1 hi rfl rfl ⟨hok.1, fun z hz => ?_, xs.take ((k + 1) * sz) ++ xs.drop (k * sz), ⟨?_, .inr ⟨g, cap, _, by rw [hel], D6 _, setRow_heap w g _ _ e _ hgw, by rw [hel]; exact hc, hcm, ?_, ?_⟩⟩, ?_⟩ (AN7 w g _), AC5 h2 (J1.refl _) AV7 rfl, by rw [size_put]; exact h3, by rw [V6]; exact h4⟩
    · rcases Z7.1 hz with hz | hz
      · exact hu z (An6 hz)
      · exact hu z (List.mem_of_mem_drop hz)
    · rw [hel, G3, hvl, I5, hxl]; omega
    · simp only [List.size_toArray, G3, I5, w4, AF4, hcs, hxl]
      have : len * sz - k * sz = (len - k) * sz := (Nat.sub_mul _ _ _).symm;omega
    · rw [hel]
      show List.take ((len + 1) * sz) (cur.toList.take ((k + 1) * sz) ++ xs.drop (k * sz) ++ cur.toList.drop ((k + 1) * sz + (xs.drop (k * sz)).length)) = _
      have hl2 : (cur.toList.take ((k + 1) * sz) ++ xs.drop (k * sz)).length = (len + 1) * sz := by rw [G3, hvl, I5, AF4, hcs]; omega
      rw [← hl2, List.take_left', ← htake, List.take_take, Nat.min_eq_left hb3];rfl
    · rw [Ae5, AJ9 (k + 1) hu, AT7 k hu]
      refine AT8 ⟨by simp [hdc.1], fun j u x hu' hx => ?_⟩ ⟨by simp [hdc.1], fun j u x hu' hx => ?_⟩
      · by_cases hj : j < (k + 1) * sz
        · rw [AI0 hj] at hu' hx; exact hdc.2 j u x hu' hx
        · rw [Ah7 AN6] at hu'; cases hu'
      · rw [AX2] at hu' hx; exact hdc.2 _ u x hu' hx
theorem zero_den {R : G4} {z : Value} {sz : Nat} (hzs : z.cells.size = sz) (h1z : z.cells.toList.all Value.oneCell' = true) (hpos : 0 < sz) (m : Nat) : n5 R (Builtin.zeroCells z.cells m).toList (List.replicate m (z.cells.toList.map n4)).flatten := by
  have hlz := BI8 z sz hzs m;have hu : ∀ e ∈ List.replicate m (z.cells.toList.map n4), e.length = sz := fun e he => by rw [(Ae6.1 he).2]; simp [hzs]
  refine ⟨by rw [hlz.1, o9 hu]; simp, fun j u x hu' hx => ?_⟩;have hjl : j < m * sz := by rw [← hlz.1]; exact (F4.1 hu').1
  have hjm : j % sz < sz := Nat.mod_lt _ hpos;have hjd : j / sz < m := Nat.div_lt_of_lt_mul (by rw [Nat.mul_comm]; exact hjl);have hjj : j / sz * sz + j % sz = j := by rw [Nat.mul_comm]; exact Nat.div_add_mod j sz
  have hzj : z.cells.toList[j % sz]? = some (z.cells.toList[j % sz]'qz116) := O1 _;have hx2 := AG0 hu (i := j / sz) (e := z.cells.toList.map n4) qz185 (k := j % sz) (x := n4 (z.cells.toList[j % sz]'qz116)) (by rw [Y6, hzj]; rfl);rw [hjj, hx] at hx2;injection hx2 with hx2
  have hu2 : u = z.cells.toList[j % sz]'qz116 := by
    rw [hlz.2 j u hu', getElem!_pos z.cells _ (by rw [hzs]; exact hjm)]; simp
  rw [hx2, hu2];exact ⟨AQ6 R _, l8.1 h1z _ Y2⟩
theorem Cj8 {ops : Array Oper} {rest : List Oper} {env : List (Nat × AV)} {K : G5 → Prop} {t tn e : TypeId} {p q : Operand} {kn : IntKind} {d sz by' g len cap j m : Nat} {inf : TypeInfo} {z : Value} {es : List (List AV)} (i : Nat) (hg : o.guard = none) (ho : o.op = .call { callee := .builtin .append, args := #[p, q], argTypes := #[t, tn] }) (hd : o.dst = some d) (hn : Nat.blt d n = true)
    (ht : P.underlying t = some (.slice e)) (htn : P.underlying tn = some (.int kn)) (hinf : P.info? e = some inf) (hz : inf.zero = some z) (hsz : inf.size = sz) (hby : inf.bytes = by') (hzs : z.cells.size = sz) (hpos' : Nat.ble 1 sz = true) (h1z : z.cells.toList.all Value.oneCell' = true) (hp : Ev (M0 · env) p (AV.is (slv g j cap))) (hq : Ev (M0 · env) q (AV.int m)) (hi : own[i]? = some (.arr (slv g len cap) e sz es))
    (hj : j ≤ len) (hm : 0 < m) (hc : cap < j + m) (hlen : (j + m) * by' ≤ 140737488355328) (hlen2 : j + m ≤ 9223372036854775807) (k : ∀ g' cap', j + m ≤ cap' → O9 P G n ops rest ⟨.arr (slv g' (j + m) cap') e sz (es.take j ++ List.replicate m (z.cells.toList.map n4)) :: own, (d, AV.is (slv g' (j + m) cap')) :: env⟩ K) : O9 P G n ops (o :: rest) ⟨own, env⟩ K :=
  o4 hg fun w0 R0 R a w ⟨h1, h2, h3, h4⟩ => by
    have hpos := AG6 hpos';have e1 : a.eval p = _ := AE1 (s := ⟨own, env⟩) (o := o) hp h2;have e2 : a.eval q = .int .i64 m := AE1 (s := ⟨own, env⟩) (o := o) hq h2;obtain ⟨hl, hlc, hcm, hu, cur, xs, hgw, hcs, htake, hxl, hdc⟩ := Ap4 (h1.owned _ (C3 hi));have hb1 : j * sz ≤ len * sz := AE3 sz hj;have hold : (Builtin.firstCells inf.size j (slv g j cap)).run P w.drew = .ok (xs.take (j * sz)).toArray w.drew := by
      have := run_loadCells_list (P := P) w.drew ⟨g, 0, none⟩ (xs.take (j * sz)) (fun i u hu' => by
        have hil : i < j * sz := by have := (F4.1 hu').1; rw [I5] at this; omega
        rw [AI0 hil, ← htake, AI0 qz8, Array.getElem?_toList] at hu';rw [addr_add, Nat.zero_add];show w.cell? _ = _
        simp [World.cell?, hgw, hu'])
      rw [I5, hxl, Nat.min_eq_left hb1] at this;simpa [Builtin.firstCells, hsz] using this
    have hr := Lib.run_append_grow_zeros (P := P) w t tn o.type e inf z .i64 kn ht htn hinf hz (some ⟨g, 0, none⟩) j cap _ hold m hm qz8 hc qz8 (by
      have : m * by' ≤ (j + m) * by' := AE3 _ qz8;rw [hby]; omega) (by rw [hby]; exact growslice_fits hc hlen)
    have hex : (execOp a.eval o).run P w = .ok (.value (slv w.heap.size (j + m) (grownCap w (j + m) cap e))) (w.drew.alloc (.cells ((xs.take (j * sz)).toArray ++ Builtin.zeroCells z.cells m ++ Builtin.zeroCells z.cells (grownCap w (j + m) cap e - (j + m))) e)) := by
      simp only [execOp, ho, resolve, invoke, builtin, Sem.run_bind, Sem.run_pure, Result.andThen_ok, AP1, T3, List.map_nil, e1, e2, hr]
    unfold Oper.wp;rw [hex, Oper.upon_value, hd];have hge := grownCap_ge w (j + m) cap e;have hcm2 : grownCap w (j + m) cap e ≤ maxLen := grownCap_le_maxLen w (j + m) cap e Bm0;have hl1 : (xs.take (j * sz)).length = j * sz := by rw [I5, hxl]; omega
    refine ⟨_, R, k _ _ hge, J1.refl _, AT9 (sz := sz) (m := j + m) (cap := grownCap w (j + m) cap e) (Aj8 h1) AN6 hge hcm2 ?_ (fun x hx => ?_) ?_, AC5 h2 (J1.refl _) AV7 rfl, by rw [size_put]; exact h3, by rw [V6]; exact h4⟩
    · simp only [Array.size_append, List.size_toArray, size_zeroCells, hl1, hzs, ← Nat.add_mul]
      congr 1; omega
    · rcases Z7.1 hx with hx | hx
      · exact hu x (An6 hx)
      · rw [(Ae6.1 hx).2]; simp [hzs]
    · have hsz3 : ((xs.take (j * sz)).toArray ++ Builtin.zeroCells z.cells m).toList.length = (j + m) * sz := by simp only [AF4, Array.size_append, List.size_toArray, size_zeroCells, hl1, hzs, Nat.add_mul]
      rw [Array.toList_append, List.take_left' hsz3, Array.toList_append, Ae5];refine AT8 ?_ (zero_den hzs h1z qz8 m);rw [AJ9 j hu];exact ⟨by simp [hdc.1], fun i u x hu' hx => by
        by_cases hij : i < j * sz
        · simp only [AI0 hij] at hu' hx; exact hdc.2 i u x hu' hx
        · rw [Ah7 AN6] at hu'; cases hu'⟩
theorem CZ7 {f : FuncId} {fn : Func} {t e tb : TypeId} {p q : Operand} {tys : Array TypeId} {gv cv g len cap k m sz : Nat} {lv : Nat} {es vs : List (List AV)} (iv i : Nat) (ho : o.op = .call { callee := .value (.func f), args := #[p, q], argTypes := tys }) (hf : P.funcs[f]? = some fn) (hname : (fn.name == "runtime.NumGoroutine") = false) (hb : fn.body.isNone = true) (hnx : Extern.findNext fn = none) (he : Extern.find fn = some (Extern.SlicesOverlaps.overlaps #[t, t] #[tb]))
    (ht : P.underlying t = some (.slice e)) (hsz : ∀ w, (sizeOf e).run P w = .ok sz w) (hp : Ev E p (AV.is (slv gv lv cv))) (hq : Ev E q (AV.is (sliced (some ⟨g, 0, none⟩) k m cap sz))) (hiv : own[iv]? = some (.arr (slv gv lv cv) e sz vs)) (hi : own[i]? = some (.arr (slv g len cap) e sz es)) (hne : Nat.beq iv i = false) (hcap : 0 < cap) (hpos : Nat.ble 1 sz = true) :
    OpW P G n own o E (AV.bool false) := AG3 fun w0 R0 R a w hcr hen => by
  have e1 : a.eval p = _ := G0 hp Al5 hen;have e2 : a.eval q = _ := G0 hq Al5 hen;have hb1 := AG6 hpos;have hij : iv ≠ i := fun h => by rw [h, Nat.beq_refl] at hne; cases hne
  obtain ⟨_, _, _, _, curv, xsv, hgv, hcv, _⟩ := Ap4 (hcr.owned _ (C3 hiv));obtain ⟨_, _, _, _, cur, xs, hg, hcs, _⟩ := Ap4 (hcr.owned _ (C3 hi));have hgne : gv ≠ g := fun h => Bb9 hcr.sep hiv hi hij (b := gv) rfl (by rw [h]; rfl);obtain ⟨ad, lb, cb, hsl, hadb⟩ : ∃ ad lb cb, sliced (some ⟨g, 0, none⟩) k m cap sz = .slice (some ad) lb cb ∧ ad.block = g := by
    unfold sliced;by_cases h : cap = k
    · exact ⟨_, _, _, by rw [D1 h], rfl⟩
    · exact ⟨_, _, _, by rw [D4 h, AB2], by rw [addr_add]⟩
  rw [hsl] at e2;have hkB : cap * sz ≠ 0 := Nat.mul_ne_zero qz8 qz8;have h3 := Lib.run_overlaps_apart (P := P) w t tb e ht sz hsz ⟨gv, 0, none⟩ ad lv cv lb cb (by rw [hadb]; exact hgne) e e curv.size cur.size (by simp [World.shape?, hgv]) (by simp [World.shape?, hadb, hg]) (by rw [hcs]; exact hkB) (by simp [World.frozen?, hgv]) (by simp [World.frozen?, hgv]);have h4 := run_callFunc_extern (P := P) hf hname hb hnx he #[slv gv lv cv, .slice (some ad) lb cb] w;rw [h3, Result.andThen_ok] at h4;refine ⟨.bool false, ?_, rfl⟩;simp only [execOp, ho, resolve, AP1, T3, List.map_nil, e1, e2, show a.eval (.func f) = .func (.func f) #[] #[] from rfl];simp [Deferred.ofValue, invoke, h4]
end
section
variable {P : Program} {G : Nat → Prop} {n : Nat} {own : List Own} {o : Oper} {E : N1}
theorem L8 {ops : Array Oper} {t e : TypeId} {p q : Operand} {sz by' : Nat} {inf : TypeInfo} {z : Value} {v : Value} {es fs : List (List AV)} (i : Nat) (ho : o.op = .call { callee := .builtin .append, args := #[p, q], argTypes := #[t, t] }) (ht : P.underlying t = some (.slice e)) (hinf : P.info? e = some inf) (hz : inf.zero = some z) (hsz : inf.size = sz) (hby : inf.bytes = by') (hzs : z.cells.size = sz) (hpos : Nat.ble 1 sz = true) (hpos2 : Nat.ble 1 by' = true) (hp : Ev E p (AV.is v)) (hq : Ev E q (AV.list sz fs)) (hi : own[i]? = some (.arr v e sz es))
    (hlen : (es.length + fs.length) * by' ≤ 140737488355328) : OpE P G n own ops o E (fun _ : Value => True) (fun v' => own.set i (.arr v' e sz (es ++ fs))) (fun v' => AV.is v') :=
  fun w0 R0 R a w h1 h3 h2 => by
    have e1 : a.eval p = v := Ap3 (ops := ops) hp Al5 h2;obtain ⟨oa, c, e2, hc1, hc2, hu, hcell⟩ := Ap3 (ops := ops) hq Al5 h2;obtain ⟨hR, hue, xs, hown, hdc⟩ := h1.owned _ (C3 hi);have hb1 := AG6 hpos;have hb2 := AG6 hpos2;have hsum : es.length + fs.length ≤ 140737488355328 := L4 (Nat.le_mul_of_pos_right _ hb2) hlen;have hufs : ∀ x ∈ es ++ fs, x.length = sz := fun x hx => by
      rcases Z7.1 hx with h | h
      · exact hue x h
      · exact hu x h
    by_cases hfs : fs = []
    · subst hfs
      have hrun : ∃ v', (Builtin.append_ #[t, t] o.type #[v, a.eval q]).run P w = .ok v' w ∧ v' = v := by
        refine ⟨v, ?_, rfl⟩;rw [e2];rcases hown.2 with ⟨rfl, hz0⟩ | ⟨g, cap, cur, rfl, _, _, hnc, _⟩
        · cases oa with
          | none => simp [Builtin.append_, run_underlying ht, sizeOf, typeInfo, hinf, Builtin.lenOf, Builtin.firstCells, hz0]
          | some ad => simp [Builtin.append_, run_underlying ht, sizeOf, typeInfo, hinf, Builtin.lenOf, Builtin.firstCells, loadCells, loadCellsFrom, hz0]
        · cases oa with
          | none => simp [Builtin.append_, run_underlying ht, sizeOf, typeInfo, hinf, Builtin.lenOf, Builtin.firstCells, hnc, storeCells]
          | some ad => simp [Builtin.append_, run_underlying ht, sizeOf, typeInfo, hinf, Builtin.lenOf, Builtin.firstCells, loadCells, loadCellsFrom, hnc, storeCells]
      obtain ⟨v', hr, rfl⟩ := hrun;have hex : (execOp a.eval o).run P w = .ok (.value v') w := by
        simp only [execOp, ho, resolve, invoke, builtin, Sem.run_bind, Sem.run_pure, Result.andThen_ok, AP1, T3, List.map_nil, e1, hr]
      unfold Oper.wp;rw [hex, Oper.upon_value];have hset : own.set i (.arr v' e sz (es ++ [])) = own := by
        rw [S1];obtain ⟨hlt, he⟩ := F4.1 hi;rw [← he]; exact List.set_getElem_self hlt
      exact ⟨v', v', R, trivial, rfl, by show S6 G w0 R0 (own.set i (.arr v' e sz (es ++ []))) R w; rw [hset]; exact h1, J1.refl _, rfl⟩
    · obtain ⟨ad, rfl, hca⟩ := hcell hfs
      obtain ⟨ns, hn1, hn2, hn3⟩ := Bm9 (sz := sz) h1.rle hca;have hnl : ns.length = fs.length * sz := by rw [hn1, o9 hu]
      have hone : ∀ u ∈ ns, u.oneCell' = true := fun u hm => by
        obtain ⟨j, hj⟩ := j4 hm;have hjl : j < fs.flatten.length := by rw [← hn1]; exact (F4.1 hj).1
        exact (hn3.2 j u _ hj (O1 hjl)).2
      obtain ⟨v', w', hr, hown', hgr, _, hblk⟩ := run_append_own_at (P := P) w 0 t o.type e inf z sz by' ht hinf hz hsz hby hzs hb1 v es.length xs hown ad fs.length c ns hnl hn2 hone Bm0 hlen (D6 _);have hex : (execOp a.eval o).run P w = .ok (.value v') w' := by
        simp only [execOp, ho, resolve, invoke, builtin, Sem.run_bind, Sem.run_pure, Result.andThen_ok, AP1, T3, List.map_nil, e1, e2, hr]
      unfold Oper.wp;rw [hex, Oper.upon_value];refine ⟨v', v', R, trivial, rfl, BD5 h1 hi (fun b hb => ?_) ⟨fun b hb => ?_, hufs, xs ++ ns, ?_, ?_⟩ hgr, J1.refl _, rfl⟩
      · simp only [Own.blk] at hb ⊢
        rcases hblk with h | h
        · exact .inl Bb0
        · rw [hb] at h; injection h with h; exact .inr h
      · rcases hblk with h | h
        · exact hR b Bb0
        · rw [hb] at h; injection h with h; subst h; exact BA1 h1.rle
      · rw [G3]; exact hown'
      · rw [Ae5]; exact AT8 hdc hn3
theorem AB4 {ops : Array Oper} {t e : TypeId} {sz : Nat} (ho : o.op = .buildSlice t 0 #[]) (ht : P.underlying t = some (.slice e)) (hs : ∀ w, (sizeOf e).run P w = .ok sz w)
    : OpE P G n own ops o E (fun _ : Value => True) (fun v' => own ++ [.arr v' e sz []]) (fun v' => AV.is v') :=
  fun w0 R0 R a w h1 h3 h2 => by
    have hex : (execOp a.eval o).run P w = .ok (.value (.slice (some ⟨w.heap.size, 0, none⟩) 0 0)) (w.alloc (.cells #[] e)) := by
      simp [execOp, ho, Instr.buildSlice, run_underlying ht, hs, newRow, Instr.fill, go_sem]
    unfold Oper.wp;rw [hex, Oper.upon_value];exact ⟨_, _, R, trivial, rfl, AB3 (AT9 h1 rfl (L5 _) (D6 _) Y2 (fun x hx => by simp at hx) ⟨by simp, fun i v x h => by simp at h⟩) (AM5 (l₁ := [_])), J1.refl _, rfl⟩
theorem BN9 {ops : Array Oper} {t e : TypeId} {len sz : Nat} {z : Value} {ps : Array (Nat × Operand)} {asl : List (Nat × List AV)} {cs : List AV} {es : List (List AV)} (ho : o.op = .buildSlice t len ps) (ht : P.underlying t = some (.slice e)) (hsz : ∀ w, (sizeOf e).run P w = .ok sz w) (hz : ∀ w, (zeroValue e).run P w = .ok z w)
    (hl : Nat.ble (len * sz) 1000 = true) (hl2 : Nat.ble len 1000 = true) (hzs : z.cells.size = sz) (h1' : z.cells.toList.all Value.oneCell' = true) (hp : EvP E ps.toList asl) (hc : AX5 (fun i => some (i * sz, sz)) ((List.range (len * sz)).map fun i => n4 (z.cells[i % z.cells.size]!)) asl = some cs) (hes : chunks sz len cs = es)
    : OpE P G n own ops o E (fun _ : Value => True) (fun v' => own ++ [.arr v' e sz es]) (fun v' => AV.is v') :=
  fun w0 R0 R a w h1 h3 h2 => by
    obtain ⟨k1, k2⟩ := BI6 (o := o) (fun t ht => h2 t (Al9 ht)) hp fun p hpm => by simp [ho, Op.operands]; exact ⟨p.1, by simpa using hpm⟩
    have hone : ∀ i, i < len * sz → (z.cells[i % z.cells.size]!).oneCell' = true := fun i hi => by
      have hpos : 0 < z.cells.size := by
        rw [hzs];rcases Nat.eq_zero_or_pos sz with h0 | h0
        · subst h0; simp at hi
        · exact h0
      rw [getElem!_pos z.cells _ (Nat.mod_lt _ hpos)];exact l8.1 h1' _ Y2
    obtain ⟨cells', f2, f3⟩ := BA0 (R := R) (place := fun i => some (i * sz, sz)) _ asl ((Array.range (len * sz)).map fun i => z.cells[i % z.cells.size]!) _ cs ⟨by simp, fun i v y hv hy => by
      rw [Array.toList_map, Y6, Array.toList_range] at hv;rw [Y6] at hy;by_cases hi : i < len * sz
      · rw [List.getElem?_range hi] at hv hy
        simp only [AB2, Option.some.injEq] at hv hy;rw [← hv, ← hy];exact ⟨AQ6 R _, hone i hi⟩
      · rw [Ah7 AN6] at hv; cases hv⟩ k1 k2 hc
    have hlen := AG6 hl;have h5 : cells'.toList.length = len * sz := by
      rw [f3.1, BV2 asl _ cs hc]; simp
    have hch := As1 sz len cs (by rw [← f3.1]; exact h5);have h6 : (ps.map fun (i, x) => (i, a.eval x)).toList = ps.toList.map fun p => (p.1, a.eval p.2) := by simp
    have hrun : (execOp a.eval o).run P w = .ok (.value (.slice (some ⟨w.heap.size, 0, none⟩) len len)) (w.alloc (.cells cells' e)) := by
      have hcap : ¬ (len * sz > 2 ^ 24) := by omega
      by_cases h0 : len * sz = 0
      · have h7 : (Array.range (len * sz)).map (fun x => (#[] : Array Value)[x % (#[] : Array Value).size]!) = (Array.range (len * sz)).map fun i => z.cells[i % z.cells.size]! := by rw [h0]; simp
        rw [← h7] at f2;simp only [execOp, ho, Instr.buildSlice, run_underlying ht, hsz, hcap, if_false, Sem.run_bind, Sem.run_pure, Result.andThen_ok, Sem.run_ite, D1 h0, h6, f2, newRow, run_newObj, World.alloc_eq]
      · simp only [execOp, ho, Instr.buildSlice, run_underlying ht, hsz, hcap, if_false, Sem.run_bind, Sem.run_pure, Result.andThen_ok, Sem.run_ite, D4 h0, hz, h6, f2, newRow, run_newObj, World.alloc_eq]
    unfold Oper.wp;rw [hrun, Oper.upon_value];have hlz : es.length = len := by rw [← hes, S2]
    refine ⟨_, _, R, trivial, rfl, AB3 (AT9 (sz := sz) (m := len) (cap := len) (es := es) h1 hlz (L5 _) (by have := AG6 hl2; unfold maxLen; omega) (by rw [← AF4]; exact h5) (by rw [← hes]; exact hch.2) ?_) (AM5 (l₁ := [_])), J1.refl _, rfl⟩;rw [U1 (by rw [h5]; exact L5 _), ← hes, hch.1];exact f3
theorem Bn4 {ops : Array Oper} {rest : List Oper} {env : List (Nat × AV)} {K : G5 → Prop} {t e : TypeId} {p q : Operand} {d sz by' : Nat} {inf : TypeInfo} {z : Value} {v : Value} {es fs : List (List AV)} (i : Nat) (hg : o.guard = none) (ho : o.op = .call { callee := .builtin .append, args := #[p, q], argTypes := #[t, t] }) (hd : o.dst = some d) (hn : Nat.blt d n = true)
    (ht : P.underlying t = some (.slice e)) (hinf : P.info? e = some inf) (hz : inf.zero = some z) (hsz : inf.size = sz) (hby : inf.bytes = by') (hzs : z.cells.size = sz) (hpos : Nat.ble 1 sz = true) (hpos2 : Nat.ble 1 by' = true) (hp : Ev (M0 · env) p (AV.is v)) (hq : L6 own (M0 · env) q sz fs) (hne : fs ≠ []) (hi : own[i]? = some (.arr v e sz es))
    (hlen : (es.length + fs.length) * by' ≤ 140737488355328) (k : ∀ v', O9 P G n ops rest ⟨own.set i (.arr v' e sz (es ++ fs)), (d, AV.is v') :: env⟩ K) : O9 P G n ops (o :: rest) ⟨own, env⟩ K :=
  o4 hg fun w0 R0 R a w ⟨h1, h2, h3, h4⟩ => by
    have e1 : a.eval p = v := AE1 (s := ⟨own, env⟩) (o := o) hp h2;obtain ⟨hu, hsrc⟩ := hq G w0 R0 R a w h1 (fun t _ y hy => h2 t y hy);obtain ⟨ad, c, ns, e2, hn2, hn3⟩ := hsrc hne;obtain ⟨hR, hue, xs, hown, hdc⟩ := h1.owned _ (C3 hi);have hb1 := AG6 hpos;have hb2 := AG6 hpos2;have hsum : es.length + fs.length ≤ 140737488355328 := L4 (Nat.le_mul_of_pos_right _ hb2) hlen;have hufs : ∀ x ∈ es ++ fs, x.length = sz := fun x hx => by
      rcases Z7.1 hx with h | h
      · exact hue x h
      · exact hu x h
    have hnl : ns.length = fs.length * sz := by rw [hn3.1, o9 hu]
    have hone : ∀ u ∈ ns, u.oneCell' = true := fun u hm => by
      obtain ⟨j, hj⟩ := j4 hm;have hjl : j < fs.flatten.length := by rw [← hn3.1]; exact (F4.1 hj).1
      exact (hn3.2 j u _ hj (O1 hjl)).2
    obtain ⟨v', w', hr, hown', hgr, _, hblk⟩ := run_append_own_at (P := P) w 0 t o.type e inf z sz by' ht hinf hz hsz hby hzs hb1 v es.length xs hown ad fs.length c ns hnl hn2 hone Bm0 hlen (D6 _);have hex : (execOp a.eval o).run P w = .ok (.value v') w' := by
      simp only [execOp, ho, resolve, invoke, builtin, Sem.run_bind, Sem.run_pure, Result.andThen_ok, AP1, T3, List.map_nil, e1, e2, hr]
    unfold Oper.wp;rw [hex, Oper.upon_value, hd];refine ⟨_, R, k v', J1.refl _, BD5 h1 hi (fun b hb => ?_) ⟨fun b hb => ?_, hufs, xs ++ ns, ?_, ?_⟩ hgr, AC5 h2 (J1.refl _) AV7 rfl, by rw [size_put]; exact h3, by rw [V6]; exact h4⟩
    · simp only [Own.blk] at hb ⊢
      rcases hblk with h | h
      · exact .inl Bb0
      · rw [hb] at h; injection h with h; exact .inr h
    · rcases hblk with h | h
      · exact hR b Bb0
      · rw [hb] at h; injection h with h; subst h; exact BA1 h1.rle
    · rw [G3]; exact hown'
    · rw [Ae5]; exact AT8 hdc hn3
end
end Go.AV
namespace Go.AV
section
variable {P : Program} {G : Nat → Prop} {n : Nat} {own : List Own}
theorem Q8 {t : List Own} {env : List (Nat × AV)} (k : Nat) (h : (own.drop k).Perm t) : Le G n ⟨own, env⟩ ⟨own.take k ++ t, env⟩ :=
  le_perm (by
    have := List.Perm.append_left (own.take k) h;rw [Aa7] at this;exact this)
theorem B6 {t : List Own} : t.Perm (t ++ []) := by rw [S1]
theorem L9 {t : List Own} : (t ++ []).Perm t := by rw [S1]
theorem BO0 {sel rest : List Own} {is : List Nat} (h : pick own is = (sel, rest)) : own.Perm (sel ++ rest) := by
  induction is generalizing own sel rest with
  | nil => unfold pick at h; injection h with h1 h2; subst h1; subst h2; exact List.Perm.refl _
  | cons i is ih =>
    unfold pick at h
    cases hi : own[i]? with
    | none => rw [hi] at h; injection h with h1 h2; subst h1; subst h2; exact List.Perm.refl _
    | some x =>
      rw [hi] at h;injection h with h1 h2; subst h1; subst h2
      exact (BN3 hi).trans (List.Perm.cons x (ih rfl))
section
variable {o : Oper} {E : N1}
theorem z6 {ops : Array Oper} {t e : TypeId} {p q : Operand} {sz by' m : Nat} {inf : TypeInfo} {z : Value} (ho : o.op = .makeSlice t p q)
    (ht : P.underlying t = some (.slice e)) (hinf : P.info? e = some inf) (hz : inf.zero = some z) (hsz : inf.size = sz) (hby : inf.bytes = by') (hzs : z.cells.size = sz) (hpos : Nat.ble 1 sz = true) (h1' : z.cells.toList.all Value.oneCell' = true) (hp : Ev E p (AV.int m)) (hq : Ev E q (AV.int m))
    (hlen : m * by' ≤ 281474976710656) (hlen2 : m ≤ 281474976710656) : OpE P G n own ops o E (fun _ : Value => True) (fun v' => own ++ [.arr v' e sz (List.replicate m (z.cells.toList.map n4))]) (fun v' => AV.is v') :=
  fun w0 R0 R a w h1 h3 h2 => by
    have e1 : a.eval p = .int .i64 m := Ap3 (ops := ops) hp M8 h2;have e2 : a.eval q = .int .i64 m := Ap3 (ops := ops) hq M8 h2;have hb1 := AG6 hpos;have hr := run_make (P := P) w t e inf z ht hinf hz .i64 .i64 (m : Int) (m : Int) qz8 qz8 (by rw [hby]; have h9 : ((m * by' : Nat) : Int) ≤ 281474976710656 := qz8; rw [Int.natCast_mul] at h9; rw [Int.mul_comm]; exact h9) qz8;simp only [AC6] at hr;have hex : (execOp a.eval o).run P w = .ok (.value (.slice (some ⟨w.heap.size, 0, none⟩) m m)) (w.alloc (.cells (madeCells z.cells (m * inf.size)) e)) := by
      simp only [execOp, ho, e1, e2, hr, Sem.run_bind, Sem.run_pure, Result.andThen_ok]
    unfold Oper.wp;rw [hex, Oper.upon_value];have hms : (madeCells z.cells (m * inf.size)).size = m * sz := by rw [size_madeCells, hsz]
    refine ⟨_, _, R, trivial, rfl, AB3 (AT9 h1 Y2 (L5 _) Bm0 hms (fun x hx => ?_) ⟨?_, fun j v x hv hx => ?_⟩) (AM5 (l₁ := [_])), J1.refl _, rfl⟩
    · rw [(Ae6.1 hx).2]; simp [hzs]
    · rw [o9 (sz := sz) (fun x hx => by rw [(Ae6.1 hx).2]; simp [hzs])]
      simp [hms]
    · have hj : j < m * sz := by
        have := (F4.1 hx).1;rw [o9 (sz := sz) (fun x hx => by rw [(Ae6.1 hx).2]; simp [hzs])] at this;simpa using this
      have hjm : j % sz < sz := Nat.mod_lt _ qz8;have hjj : j / sz * sz + j % sz = j := by rw [Nat.mul_comm]; exact Nat.div_add_mod j sz
      have hjd : j / sz < m := Nat.div_lt_of_lt_mul (by rw [Nat.mul_comm]; exact hj);have hzj : z.cells.toList[j % sz]? = some (z.cells.toList[j % sz]'qz116) := O1 _;have hx2 := AG0 (sz := sz) (es := List.replicate m (z.cells.toList.map n4)) (fun x hx => by rw [(Ae6.1 hx).2]; simp [hzs]) (i := j / sz) (e := z.cells.toList.map n4) qz185 (k := j % sz) (x := n4 (z.cells.toList[j % sz]'qz116)) (by rw [Y6, hzj]; rfl);rw [hjj, hx] at hx2;injection hx2 with hx2
      rw [AI0 hj] at hv;have hv2 : v = z.cells.toList[j % sz]'qz116 := by
        unfold madeCells at hv;rw [hsz] at hv;simp only [Array.toList_map, Array.toList_range, Y6, List.getElem?_range hj, AB2, Option.some.injEq] at hv;rw [← hv, hzs, getElem!_pos z.cells _ (by rw [hzs]; exact hjm)];simp
      rw [hx2, hv2];exact ⟨AQ6 R _, l8.1 h1' _ Y2⟩
end
section
variable {α : Type} {ok : α → Prop} {O : α → List Own} {V : α → AV} {o : Oper}
theorem Cr5 {ops : Array Oper} {rs : List Oper} {env : List (Nat × AV)} {K : G5 → Prop} {d : Nat} {f : FuncId} {args : Array Operand} {tys : Array TypeId} {ps : List Operand} {xs : List AV} {sel rest : List Own} {own' : α → List Own} (hg : o.guard = none) (ho : o.op = .call { callee := .value (.func f), args := args, argTypes := tys }) (hd : o.dst = some d) (hn : Nat.blt d n = true)
    (hc : ∀ (vs : Array Value) (w : World), (callFunc f vs).run P w = .ok (.enter f vs) w) (hps : args.toList = ps) (hp : own.Perm (sel ++ rest)) (hs : K0 P f xs sel ok O V) (he : EvL (M0 · env) ps xs) (hq : ∀ a, (O a ++ rest).Perm (own' a))
    (k : ∀ a, ok a → O9 P G n ops rs ⟨own' a, (d, V a) :: env⟩ K) : O9 P G n ops (o :: rs) ⟨own, env⟩ K :=
  o4 hg fun w0 R0 R a w ⟨h1, h2, h3, h4⟩ => by
    have hcore := AB3 h1 hp;have hden := Ad2 (o := o) (fun t _ y hy => h2 t y hy) he fun p hp => by simp [ho, Op.operands, Call.operands]; right; rw [← hps] at hp; exact Array.mem_toList_iff.1 hp
    have hrun : (execOp a.eval o).run P w = .ok (.enter f (ps.map a.eval).toArray) w := by
      have hargs : args.map a.eval = (ps.map a.eval).toArray := by rw [← hps]; cases args; simp
      simp only [execOp, ho, resolve, hargs, show a.eval (.func f) = .func (.func f) #[] #[] from rfl];simp [Deferred.ofValue, invoke, hc]
    unfold Oper.wp;rw [hrun, Oper.upon_enter];refine (hs R w _ hcore.rle hden (fun q hq => hcore.owned q (AS9 _ hq)) (m5 hcore).sep).mono fun e w' ⟨x, v, R', e0, e1, e2, e3⟩ => ?_;subst e1;have hR := AP7 hcore.rle e3.rold;refine ⟨⟨own' x, (d, V x) :: env⟩, R', k x e0, hR, AB3 (Am2 hcore e3) (hq x), ?_, by rw [size_put]; exact h3, by rw [V6]; exact h4⟩;rw [hd];exact AC5 h2 hR AV7 e2
theorem r6 {ops : Array Oper} {E : N1} {rest : List Own} (m : Nat) (h : OpE P G n own ops o E ok (fun a => rest ++ O a) V) : OpE P G n own ops o E ok (fun a => rest.take m ++ (O a ++ rest.drop m)) V := fun w0 R0 R a w h1 h2 h3 =>
  Oper.wp_mono2 (fun a' w' ⟨x, v, R', e0, e1, e2, e3, e4⟩ => ⟨x, v, R', e0, e1, AB3 e2 (by
    show (rest ++ O x).Perm (rest.take m ++ (O x ++ rest.drop m))
    conv => lhs; rw [← Aa7 m rest]
    rw [e6];exact List.Perm.append_left _ AM5), e3, e4⟩) (fun _ _ _ h => h) (h w0 R0 R a w h1 h2 h3)
theorem W5 {ops : Array Oper} {E : N1} {W' : α → List Own} {g : α → Value} {e : TypeId} {sz : Nat} {es : List (List AV)} (i : Nat) (hg : ∀ a, (W' a)[i]? = some (.arr (g a) e sz es)) (h : OpE P G n own ops o E ok W' V) : OpE P G n own ops o E (fun a => ok a ∧ (g a).oneCell' = true) W' V := fun w0 R0 R a w h1 h2 h3 =>
  Oper.wp_mono2 (fun a' w' ⟨x, v, R', e0, e1, e2, e3, e4⟩ => ⟨x, v, R', ⟨e0, Cf2 (e2.owned _ (C3 (hg x)))⟩, e1, e2, e3, e4⟩) (fun _ _ _ h => h) (h w0 R0 R a w h1 h2 h3)
theorem j7 {ops : Array Oper} {E : N1} {t : TypeId} {z : Value} (ho : o.op = .alloc t)
    (hz : ∀ w, (zeroValue t).run P w = .ok z w) (h1' : z.cells.toList.all Value.oneCell' = true) : OpE P G n own ops o E (fun _ : Nat => True) (fun b => own ++ [.box b t (z.cells.toList.map n4)]) (fun b => AV.ptr b 0) :=
  fun w0 R0 R a w h1 h3 h2 => by
    have hrun : (execOp a.eval o).run P w = .ok (.value (.pointer (some ⟨w.heap.size, 0, none⟩))) (w.alloc (.cells z.cells.toList.toArray t)) := by
      simp only [execOp, ho, Instr.alloc, newVar, newRow, hz, Array.toArray_toList, Sem.run_bind, Sem.run_pure, Result.andThen_ok, run_newObj, World.alloc_eq]
    unfold Oper.wp;rw [hrun, Oper.upon_value];exact ⟨w.heap.size, _, R, trivial, rfl, AB3 (BM8 h1 ⟨by simp, fun i v y hv hy => by
      rw [Y6, hv] at hy;simp at hy; subst hy;exact ⟨AQ6 R v, l8.1 h1' v (C3 hv)⟩⟩) (AM5 (l₁ := [_])), J1.refl _, rfl⟩
theorem w6 {ops : Array Oper} {E : N1} {t t' : TypeId} {p q : Operand} {b : Nat} {cs ys : List AV} {x : AV} (i : Nat) (ho : o.op = .store t p q) (hd : o.dst = none)
    (hp : Ev E p (AV.ptr b 0)) (hq : Ev E q x) (hx : AH3 x ys) (hi : own[i]? = some (.box b t' cs)) (hs : ∀ w, (sizeOf t).run P w = .ok ys.length w) (hl' : Nat.beq ys.length cs.length = true) : OpE P G n own ops o E (fun _ : Unit => True) (fun _ => own.set i (.box b t' ys)) (fun _ => AV.int 0) :=
  fun w0 R0 R a w h1 h3 h2 => by
    have e1 : a.eval p = .pointer (some ⟨b, 0, none⟩) := Ap3 (ops := ops) hp M8 h2;have e2 := hx R _ (Ap3 (ops := ops) hq M8 h2);have e := Nat.eq_of_beq_eq_true hl';obtain ⟨hR, vs, hb, hdc⟩ := h1.owned _ (C3 hi);have hsz : (a.eval q).cells.size = ys.length := by rw [← AF4]; exact e2.1
    have hst := As0 (P := P) (t := t) (off := 0) (u := a.eval q) hb (by rw [hsz]; exact hs w) (by rw [hsz, hdc.1]; omega) (fun u hu => by
      obtain ⟨j, hj⟩ := j4 hu;have hjl : j < ys.length := by rw [← e2.1]; exact (F4.1 hj).1
      exact (e2.2 j u _ hj (O1 hjl)).2)
    have hrun : (execOp a.eval o).run P w = .ok .skip (w.setRow b (vs.take 0 ++ (a.eval q).cells.toList ++ vs.drop (0 + (a.eval q).cells.size)).toArray) := by
      simp only [execOp, ho, e1, hst, Sem.run_bind, Sem.run_pure, Result.andThen_ok]
    unfold Oper.wp;rw [hrun, Oper.upon_skip, hd];refine ⟨(), .int .i64 0, R, trivial, rfl, AL8 h1 hi rfl rfl ⟨hR, _, setRow_heap w b _ _ t' _ hb, ?_⟩ (AN7 w b _), J1.refl _, rfl⟩;rw [← AF4];have := Af7 (off := 0) hdc e2 qz8;rw [Bm8 e] at this;exact this
theorem J7 {ops : Array Oper} {rs : List Oper} {env : List (Nat × AV)} {K : G5 → Prop} {d : Nat} {f : FuncId} {args : Array Operand} {tys : Array TypeId} {ps : List Operand} {xs : List AV} {s1 r1 : List Own} (is : List Nat) (m j : Nat) (B D : List Own) (NT : α → List Own) (hg : o.guard = none) (ho : o.op = .call { callee := .value (.func f), args := args, argTypes := tys }) (hd : o.dst = some d) (hn : Nat.blt d n = true)
    (hc : ∀ (vs : Array Value) (w : World), (callFunc f vs).run P w = .ok (.enter f vs) w) (hps : args.toList = ps) (hp : pick own is = (s1, r1)) (hB : (r1.drop m).Perm (B ++ D)) (hs : K0 P f xs (s1 ++ B) ok O V) (he : EvL (M0 · env) ps xs) (hN : ∀ a, ((O a).drop j ++ D).Perm (NT a))
    (k : ∀ a, ok a → O9 P G n ops rs ⟨(O a).take j ++ (r1.take m ++ NT a), (d, V a) :: env⟩ K) : O9 P G n ops (o :: rs) ⟨own, env⟩ K := by
  refine Cr5 (sel := s1 ++ B) (rest := r1.take m ++ D) (own' := fun a => (O a).take j ++ (r1.take m ++ NT a)) hg ho hd hn hc hps ?_ hs he (fun a => ?_) k
  · refine (BO0 hp).trans ?_
    have h1 : r1.Perm (r1.take m ++ (B ++ D)) := by
      have := List.Perm.append_left (r1.take m) hB
      rwa [Aa7] at this
    refine (List.Perm.append_left s1 h1).trans ?_;rw [e6];refine List.Perm.append_left s1 ?_;rw [← e6, ← e6];exact List.Perm.append_right D AM5
  · have h1 : (O a ++ (r1.take m ++ D)).Perm ((O a).take j ++ (r1.take m ++ ((O a).drop j ++ D))) := by
      conv => lhs; rw [← Aa7 j (O a)]
      rw [e6];refine List.Perm.append_left _ ?_;rw [← e6, ← e6];exact List.Perm.append_right D AM5
    exact h1.trans (List.Perm.append_left _ (List.Perm.append_left _ (hN a)))
theorem I3 {fn : Func} {s : G5} {sel rest : List Own} (is : List Nat) (m : Nat) (B D : List Own) (x : α) (hx : ok x) (hp : pick s.own is = (sel, rest)) (hB : (rest.drop m).Perm (B ++ D)) (ho : O x = sel ++ B) (h : ∀ w0 R0 R a w, St G n w0 R0 s R a w → ∃ v, (results fn a.tmps).run P w = .ok v w ∧ (V x).den R v) : H5 P G n fn s ok O V := fun w0 R0 R a w hs => by
  obtain ⟨v, h1, h2⟩ := h w0 R0 R a w hs;refine ⟨x, v, R, hx, h1, h2, J1.refl _, ?_⟩;rw [ho];refine m5 (b := rest.take m ++ D) (AB3 hs.1 ?_);refine (BO0 hp).trans ?_;have h1 : rest.Perm (rest.take m ++ (B ++ D)) := by
    have := List.Perm.append_left (rest.take m) hB
    rwa [Aa7] at this
  refine (List.Perm.append_left sel h1).trans ?_;rw [e6];refine List.Perm.append_left sel ?_;rw [← e6, ← e6];exact List.Perm.append_right D AM5
end
end
inductive OT where
  | nil
  | pure (i : Nat) (t : OT)
  | e1 (i : Nat) (t : OT)
  | e2 (i : Nat) (t : OT) (j : Nat) (u : OT)
def OT.deep : OT → Nat → Bool
  | .nil, 0 => true
  | .pure _ t, f + 1 => t.deep f
  | .e1 _ t, f + 1 => t.deep f
  | .e2 _ t _ u, f + 1 => t.deep f && u.deep f
  | _, _ => false
def BR5 (md : Region.Mode) (ops : Array Oper) (g m : Nat) : OT → Array Bool → Bool
  | .nil, listed => Region.seqB md ops g m listed
  | .pure i r, listed => (Region.ready md ops listed).contains i && Region.free md ops listed i && Nat.blt i m && BR5 md ops g m r (listed.setIfInBounds i true)
  | .e1 i r, listed => decide (Region.ready md ops listed = [i]) && Nat.blt i m && BR5 md ops g m r (listed.setIfInBounds i true)
  | .e2 i r j u, listed => decide (Region.ready md ops listed = [i, j]) && Nat.blt i m && Nat.blt j m && BR5 md ops g m r (listed.setIfInBounds i true) && BR5 md ops g m u (listed.setIfInBounds j true)
def treeB (md : Region.Mode) (ops : Array Oper) (m : Nat) (ord : OT) : Bool :=
  decide (m < ops.size) && ord.deep m && Region.sinkB md ops m && Region.chainB md ops m && BR5 md ops (ops.size - m) m ord (Array.replicate ops.size false)
section
variable {P : Program} {G : Nat → Prop} {n : Nat}
def AU3 (P : Program) (G : Nat → Prop) (n : Nat) (Inv : List Own → Prop) (ops : Array Oper) (i : Nat) (env : List (Nat × AV)) (W : List Own) (K : List (Nat × AV) → List Own → Prop) : Prop :=
  ∃ o, ops[i]? = some o ∧ o.guard = none ∧ ∃ (α : Type) (ok : α → Prop) (W' : α → List Own) (V : α → AV), OpE P G n W ops o (M0 · env) ok W' V ∧ (∀ a, ok a → Inv (W' a)) ∧ ∀ a, ok a → K (BH7 o.dst (V a) env) (W' a)
def BT (P : Program) (G : Nat → Prop) (n : Nat) (Inv : List Own → Prop) (ops : Array Oper) : OT → List (Nat × AV) → List Own → (List (Nat × AV) → List Own → Prop) → Prop
  | .nil, env, W, K => K env W
  | .pure i r, env, W, K => ∃ o, ops[i]? = some o ∧ ∃ x, (∀ W', Inv W' → OpA P G n W' ops o (M0 · env) x) ∧ BT P G n Inv ops r (BH7 o.dst x env) W K
  | .e1 i r, env, W, K => AU3 P G n Inv ops i env W fun env' W' => BT P G n Inv ops r env' W' K
  | .e2 i r j u, env, W, K => (AU3 P G n Inv ops i env W fun env' W' => BT P G n Inv ops r env' W' K) ∧ AU3 P G n Inv ops j env W fun env' W' => BT P G n Inv ops u env' W' K
theorem At9 {Inv : List Own → Prop} {md : Region.Mode} {ops : Array Oper} {m g : Nat} {K : List (Nat × AV) → List Own → Prop} (hs : Region.sinkB md ops m = true) (hc : Region.chainB md ops m = true) (hn : m < ops.size) :
    ∀ (l : OT) (f : Nat) (listed : Array Bool) (env : List (Nat × AV)) (W : List Own), l.deep f = true → HeadInv md ops m listed → Inv W →
    BR5 md ops g m l listed = true → BT P G n Inv ops l env W K →
    BC1 P G n Inv md ops m (fun listed' E W => Region.seqB md ops g m listed' = true ∧ ∃ env', E = (M0 · env') ∧ K env' W) f listed (M0 · env) W
  | .nil, 0, listed, env, W, _, _, _, hB, h => ⟨hB, env, rfl, h⟩
  | .nil, _ + 1, _, _, _, hdp, _, _, _, _ => by cases hdp
  | .pure _ _, 0, _, _, _, hdp, _, _, _, _ => by cases hdp
  | .e1 _ _, 0, _, _, _, hdp, _, _, _, _ => by cases hdp
  | .e2 _ _ _ _, 0, _, _, _, hdp, _, _, _, _ => by cases hdp
  | .pure i l, f + 1, listed, env, W, hdp, inv, hW, hB, h => by
    simp only [BR5, F0] at hB;obtain ⟨⟨⟨hr, hf⟩, hlt⟩, hB'⟩ := hB;have hkn : i < m := Nat.blt_eq.mp hlt;have hr' : i ∈ Region.ready md ops listed := by simpa using hr
    obtain ⟨o, ho, x, hx, hK⟩ := h;refine BA5 ho hs hc hn hkn (fun listed' E W hL => seqB_ready hL.1) f listed _ W inv hW (Region.free_spec ho hf) hr' hx ?_;rw [← n6];exact At9 hs hc hn l f _ _ W hdp (inv.set hr' hkn) hW hB' hK
  | .e1 i l, f + 1, listed, env, W, hdp, inv, hW, hB, h => by
    simp only [BR5, F0, I4] at hB;obtain ⟨⟨hr, hlt⟩, hB'⟩ := hB;have hkn : i < m := Nat.blt_eq.mp hlt;have hr' : i ∈ Region.ready md ops listed := by rw [hr]; simp
    obtain ⟨o, ho, hg, α, ok, W', V, h1, h2, h3⟩ := h;refine ⟨fun h0 => Bb2, fun j hj => ?_⟩;rw [hr] at hj;have : j = i := by simpa using hj
    subst this;refine ⟨hkn, ?_⟩;unfold qB;simp only [ho];refine .inr ⟨hg, α, ok, W', V, h1, h2, fun a ha => ?_⟩;rw [← n6];exact At9 hs hc hn l f _ _ (W' a) hdp (inv.set hr' hkn) (h2 a ha) hB' (h3 a ha)
  | .e2 i l k u, f + 1, listed, env, W, hdp, inv, hW, hB, h => by
    simp only [BR5, F0, I4] at hB;obtain ⟨⟨⟨⟨hr, hlt⟩, hlt2⟩, hB'⟩, hB2⟩ := hB;simp only [OT.deep, F0] at hdp;have hkn : i < m := Nat.blt_eq.mp hlt;have hkn2 : k < m := Nat.blt_eq.mp hlt2;have hr' : i ∈ Region.ready md ops listed := by rw [hr]; simp
    have hr2 : k ∈ Region.ready md ops listed := by rw [hr]; simp
    obtain ⟨⟨o, ho, hg, α, ok, W', V, h1, h2, h3⟩, ⟨o', ho', hg', α', ok', W'', V', h1', h2', h3'⟩⟩ := h;refine ⟨fun h0 => Bb2, fun j hj => ?_⟩;rw [hr] at hj;simp only [O5, List.not_mem_nil, or_false] at hj;rcases hj with hj | hj
    · subst hj
      refine ⟨hkn, ?_⟩;unfold qB;simp only [ho];refine .inr ⟨hg, α, ok, W', V, h1, h2, fun a ha => ?_⟩;rw [← n6];exact At9 hs hc hn l f _ _ (W' a) hdp.1 (inv.set hr' hkn) (h2 a ha) hB' (h3 a ha)
    · subst hj
      refine ⟨hkn2, ?_⟩;unfold qB;simp only [ho'];refine .inr ⟨hg', α', ok', W'', V', h1', h2', fun a ha => ?_⟩;rw [← n6];exact At9 hs hc hn u f _ _ (W'' a) hdp.2 (inv.set hr2 hkn2) (h2' a ha) hB2 (h3' a ha)
theorem Y7 {id : Nat} {l : List Oper} {Q : Exit → G5 → Prop} {env : List (Nat × AV)} {own : List Own} (base : List Own) (m : Nat) (ord : OT) (hm : P.follows .mixedOrders = true) (hB : treeB .any l.toArray m ord = true) (hd : Bd5 n l = true) (hb : AZ8 base own)
  (h : BT P G n (AZ8 base) l.toArray ord env own (fun env' W => O9 P G n l.toArray (l.drop m) ⟨W, env'⟩ (Q .normal))) : AWP P G n (.region id l.toArray true) Q ⟨own, env⟩ := fun w0 R0 R a w ⟨h1, h2, h3, h4⟩ => by
 simp only [treeB, F0, I4] at hB;obtain ⟨⟨⟨⟨hn, hdp⟩, hs⟩, hc⟩, hlex⟩ := hB;have hn' : m < l.length := by simpa using hn
 have hdl : (l.drop m).length = l.toArray.size - m := by simp
 have inv0 : HeadInv .any l.toArray m (Array.replicate l.toArray.size false) :=
  ⟨by simp, fun j oj _ hl => CL3, fun t _ ht => getD_in (by simpa using ht) (getD_replicate_false _ _)⟩
 have H := At9 (g := l.toArray.size - m) hs hc hn ord m _ env own hdp inv0 hb hlex h;refine wp_region_any hm ?_;have := AW2 (w0 := w0) (R0 := R0) (R00 := R) (g := l.toArray.size - m) (Q' := fun e a' w' => ∃ s' R', Q e s' ∧ J1 R R' ∧ St G n w0 R0 s' R' a' w') (fun i o ho d e => Am0 hd i o (by simpa using ho) d e) (fun listed E W R' a' w' g1 g2 g3 g4 g5 hL => by
  obtain ⟨hL1, env', rfl, hL2⟩ := hL
  have := wpAny_of_seq (P := P) (md := .any) (Q' := fun e a' w' => ∃ s' R', Q e s' ∧ J1 R R' ∧ St G n w0 R0 s' R' a' w') (l.drop m) m listed a' w' (fun j => by simp [AX2]) (by rw [hdl]; exact hL1)
   (AL7 (R00 := R) (K := Q .normal) (fun s' R' a w q r1 r2 => ⟨s', R', q, r1, r2⟩) _ (⟨W, env'⟩ : G5) R' a' w' g1 ⟨g2, g3, g4, g5⟩ hL2)
  rwa [hdl] at this) _ _ _ own R a _ (J1.refl _) (Aj8 h1) h2 h3 h4 H
 rw [show m + (l.toArray.size - m) = l.toArray.size by omega] at this;exact this
section
variable {ops : Array Oper} {i j : Nat} {o : Oper} {r u : OT} {env : List (Nat × AV)} {W : List Own} {base : List Own} {K : List (Nat × AV) → List Own → Prop} {d : Nat} {x : AV}
theorem bt_nil {Inv : List Own → Prop} (h : K env W) : BT P G n Inv ops .nil env W K := h
theorem N5 (ho : ops[i]? = some o) (hg : o.guard = none) (hd : o.dst = some d) (h : ∀ ext, OpW P G n (base ++ ext) o (M0 · env) x) (k : BT P G n (AZ8 base) ops r ((d, x) :: env) W K) : BT P G n (AZ8 base) ops (.pure i r) env W K :=
  ⟨o, ho, x, fun W' ⟨ext, e⟩ => by subst e; exact At5 hg (h ext), by rw [hd]; exact k⟩
theorem Ab4 {c : Bool} (ho : ops[i]? = some o) (hd : o.dst = some d) (hg : F8 ops o (M0 · env) c) (h : c = true → ∀ ext, OpW P G n (base ++ ext) o (M0 · env) x) (k : BT P G n (AZ8 base) ops r ((d, AV.whn c x) :: env) W K) : BT P G n (AZ8 base) ops (.pure i r) env W K :=
  ⟨o, ho, _, fun W' ⟨ext, e⟩ => by subst e; exact Bw0 hg fun hc => h hc ext, by rw [hd]; exact k⟩
theorem bt_e1 {Inv : List Own → Prop} (h : AU3 P G n Inv ops i env W fun env' W' => BT P G n Inv ops r env' W' K) : BT P G n Inv ops (.e1 i r) env W K := h
theorem AW3 {Inv : List Own → Prop} (h : AU3 P G n Inv ops i env W fun env' W' => BT P G n Inv ops r env' W' K) (k : AU3 P G n Inv ops j env W fun env' W' => BT P G n Inv ops u env' W' K) : BT P G n Inv ops (.e2 i r j u) env W K := ⟨h, k⟩
theorem AU1 {Inv : List Own → Prop} {α : Type} {ok : α → Prop} {W' : α → List Own} {V : α → AV} (ho : ops[i]? = some o) (hg : o.guard = none) (hd : o.dst = none) (h : OpE P G n W ops o (M0 · env) ok W' V) (hi : ∀ a, ok a → Inv (W' a)) (k : ∀ a, ok a → K env (W' a)) : AU3 P G n Inv ops i env W K :=
  ⟨o, ho, hg, α, ok, W', V, h, hi, fun a ha => by rw [hd]; exact k a ha⟩
theorem L1 {Inv : List Own → Prop} {α : Type} {ok : α → Prop} {W' : α → List Own} {V : α → AV} (ho : ops[i]? = some o) (hg : o.guard = none) (hd : o.dst = some d) (h : OpE P G n W ops o (M0 · env) ok W' V) (hi : ∀ a, ok a → Inv (W' a)) (k : ∀ a, ok a → K ((d, V a) :: env) (W' a)) : AU3 P G n Inv ops i env W K :=
  ⟨o, ho, hg, α, ok, W', V, h, hi, fun a ha => by rw [hd]; exact k a ha⟩
end
end
section
variable {T X : Type} {cs : T → List AV} {ocs : T → X → List AV} {ow : T → X → List Own}
def L7 (ocs : T → X → List AV) (l : List T) (xs : List X) : List (List AV) := List.zipWith ocs l xs
def nin (ow : T → X → List Own) (l : List T) (xs : List X) : List Own := (List.zipWith ow l xs).flatten
theorem W7 {l : List T} {xs : List X} (h : xs.length = l.length) : (L7 ocs l xs).length = l.length := by unfold L7; rw [List.length_zipWith]; omega
theorem T7 {l : List T} {xs : List X} {i : Nat} {p : T} {x : X} (hp : l[i]? = some p) (hx : xs[i]? = some x) : (L7 ocs l xs)[i]? = some (ocs p x) := by
  unfold L7; rw [List.getElem?_zipWith, hp, hx]
theorem Bn5 {l : List T} {xs : List X} {p : T} {x : X} (h : xs.length = l.length) : L7 ocs (l ++ [p]) (xs ++ [x]) = L7 ocs l xs ++ [ocs p x] := by
  unfold L7; rw [List.zipWith_append h.symm]; rfl
theorem CP5 {l : List T} {xs : List X} {p : T} {x : X} (h : xs.length = l.length) : (ow p x ++ nin ow l xs).Perm (nin ow (l ++ [p]) (xs ++ [x])) := by
  unfold nin; rw [List.zipWith_append h.symm, Ae5];refine List.perm_append_comm.trans ?_;simp
theorem BD9 {l : List T} {i : Nat} {p : T} (h : l[i]? = some p) : l.take (i + 1) = l.take i ++ [p] := by rw [V7, h]; rfl
theorem Ai5 {l : List T} {xs : List X} {p : T} {x : X} {i : Nat} (hp : l[i]? = some p) (h : xs.length = i) : (ow p x ++ nin ow (l.take i) xs).Perm (nin ow (l.take (i + 1)) (xs ++ [x])) := by
  have hi := (F4.1 hp).1;rw [BD9 hp];exact CP5 (by rw [h, I5]; omega)
theorem Ad3 {l : List T} {xs : List X} {p : T} {x : X} {i : Nat} (hp : l[i]? = some p) (h : xs.length = i) : L7 ocs (l.take i) xs ++ [ocs p x] = L7 ocs (l.take (i + 1)) (xs ++ [x]) := by
  have hi := (F4.1 hp).1;rw [BD9 hp, Bn5 (by rw [h, I5]; omega)]
theorem AU2 {p : T} {x : X} : ∀ {l : List T} {xs : List X} {i : Nat}, l[i]? = some p → xs[i]? = some x → (nin ow l xs).Perm (ow p x ++ nin ow (l.eraseIdx i) (xs.eraseIdx i))
  | [], _, _, h, _ => by simp at h
  | _ :: _, [], _, _, h => by simp at h
  | q :: l, y :: xs, 0, hp, hx => by simp at hp hx; subst hp; subst hx; exact List.Perm.refl _
  | q :: l, y :: xs, i + 1, hp, hx => by
    have ih := AU2 (l := l) (xs := xs) (i := i) (by simpa using hp) AS0;unfold nin at *;simp only [List.zipWith_cons_cons, AT1, BM1];refine (List.Perm.append_left (ow q y) ih).trans ?_;rw [← e6, ← e6];exact List.Perm.append_right _ AM5
theorem Cf4 {p p' : T} {x : X} {l : List T} {xs : List X} {i : Nat} (hp : l[i]? = some p) (hx : xs[i]? = some x) : (ow p' x ++ nin ow (l.eraseIdx i) (xs.eraseIdx i)).Perm (nin ow (l.set i p') xs) := by
  have hi := (F4.1 hp).1;have h := AU2 (ow := ow) (l := l.set i p') (xs := xs) (i := i) (p := p') (x := x) (AR3 hi) hx;rw [List.eraseIdx_set_eq] at h;exact h.symm
theorem AS1 {p : T} {x : X} : ∀ {l : List T} {xs : List X} {i : Nat}, l[i]? = some p → xs[i]? = some x → L7 ocs l xs = L7 ocs (l.take i) (xs.take i) ++ ocs p x :: L7 ocs (l.drop (i + 1)) (xs.drop (i + 1))
  | [], _, _, h, _ => by simp at h
  | _ :: _, [], _, _, h => by simp at h
  | q :: l, y :: xs, 0, hp, hx => by simp at hp hx; subst hp; subst hx; rfl
  | q :: l, y :: xs, i + 1, hp, hx => by
    have ih := AS1 (p := p) (x := x) (l := l) (xs := xs) (i := i) (by simpa using hp) AS0;unfold L7 at *;simp only [List.zipWith_cons_cons, Al7, BD1, Ah2];rw [ih]
theorem Cj9 {p p' : T} {x : X} {l : List T} {xs : List X} {i : Nat} (hp : l[i]? = some p) (hx : xs[i]? = some x) : L7 ocs (l.take i) (xs.take i) ++ ocs p' x :: L7 ocs (l.drop (i + 1)) (xs.drop (i + 1)) = L7 ocs (l.set i p') xs := by
  have hi := (F4.1 hp).1;rw [AS1 (l := l.set i p') (i := i) (p := p') (x := x) (AR3 hi) hx, List.take_set_of_le (L5 _), List.drop_set_of_lt qz8]
theorem AQ7 {p : T} {x : X} {l : List T} {xs : List X} {i : Nat} (hp : l[i]? = some p) (hx : xs[i]? = some x) : (L7 ocs (l.take i) (xs.take i)).length = i := by
  have h1 := (F4.1 hp).1;have h2 := (F4.1 hx).1;unfold L7; rw [List.length_zipWith, I5, I5]; omega
theorem BO1 {p : T} {x : X} {l : List T} {xs : List X} {i : Nat} {r : List AV} (hp : l[i]? = some p) (hx : xs[i]? = some x) (hl : xs.length = l.length) : (L7 ocs (l.take i) (xs.take i) ++ r :: L7 ocs (l.drop (i + 1)) (xs.drop (i + 1))).length = l.length := by
  have h1 := (F4.1 hp).1;rw [G3, AQ7 hp hx, H1];unfold L7; rw [List.length_zipWith, w4, w4]; omega
theorem Bc3 {p : T} {x : X} {l : List T} {xs : List X} {i : Nat} (hp : l[i]? = some p) (hx : xs[i]? = some x) : ∀ o ∈ ow p x, o ∈ nin ow l xs := fun o ho => (AU2 (ow := ow) (i := i) hp hx).mem_iff.2 (AS9 _ ho)
theorem BO2 {own : List Own} {v : Value} {t : TypeId} {sz : Nat} {l : List T} {xs : List X} (hlc : ∀ p x, (∀ o ∈ ow p x, o ∈ own) → AD0 own (ocs p x) (cs p)) (hlen : xs.length = l.length) (i : Nat) (hi : own[i]? = some (.arr v t sz (L7 ocs l xs))) (hm : ∀ o ∈ nin ow l xs, o ∈ own) : AO0 own (AV.is v) (AV.list sz (l.map cs)) :=
  M1 (C3 hi) ⟨by rw [W7 hlen, A6], fun j a b ha hb => by
    rw [Y6] at hb
    cases hp : l[j]? with
    | none => rw [hp] at hb; cases hb
    | some p =>
      rw [hp] at hb;have hj := (F4.1 hp).1;obtain ⟨x, hx⟩ : ∃ x, xs[j]? = some x := ⟨_, O1 qz8⟩;rw [T7 hp hx] at ha;injection ha with ha; injection hb with hb; subst ha; subst hb
      exact hlc p x fun o ho => hm o (Bc3 hp hx o ho)⟩
end
section
variable {T : Type}
def CY4 (mk : T → Int → T) (mn : T → Int → Int) : List T → Int → List T
  | [], _ => []
  | p :: l, k => mk p k :: CY4 mk mn l (mn p k)
def Y8 (mn : T → Int → Int) : List T → Int → Int
  | [], k => k
  | p :: l, k => Y8 mn l (mn p k)
variable {mk : T → Int → T} {mn : T → Int → Int}
theorem BO3 : ∀ (l : List T) (k : Int), (CY4 mk mn l k).length = l.length
  | [], _ => rfl
  | p :: l, k => by unfold CY4; simp [BO3 l]
theorem BE0 (hm : ∀ p k, k ≤ mn p k) : ∀ (l : List T) (k : Int), k ≤ Y8 mn l k
  | [], k => Int.le_refl _
  | p :: l, k => Int.le_trans (hm p k) (BE0 hm l _)
end
section
variable {P : Program} {G : Nat → Prop} {n : Nat} {own : List Own} {o : Oper}
theorem Ak5 {rest : List Own} : ∀ b, (fun _ : Nat => False) b → b ∈ rest.filterMap Own.blk := fun _ h => h.elim
theorem Q2 {rest : List Own} : ∀ b, AY3 [] b → b ∈ rest.filterMap Own.blk := fun _ ⟨_, h, _⟩ => by simp at h
theorem z7 {q q' : Own} {ow rest : List Own} (i : Nat) (h : rest[i]? = some q') (hb : Own.blk q = Own.blk q') (k : ∀ b, AY3 ow b → b ∈ rest.filterMap Own.blk) : ∀ b, AY3 (q :: ow) b → b ∈ rest.filterMap Own.blk := fun b ⟨x, hx, hxb⟩ => by
  rcases O5.1 hx with rfl | hx
  · exact List.mem_filterMap.2 ⟨q', C3 h, hb ▸ hxb⟩
  · exact k b ⟨x, hx, hxb⟩
theorem BO4 {sel rest : List Own} {w0 : World} {R0 R : G4} {w : World} (h : S6 G w0 R0 (sel ++ rest) R w) (hG : ∀ b, G b → b ∈ rest.filterMap Own.blk) : S6 G w0 R0 rest (AC9 sel w R) w := by
  have hl := m5 h;refine ⟨h.os, h.tape, h.output, h.size, h.block, Bc1 hl, fun b hb => ?_, fun q hq => ?_, fun q hq => h.fresh q (AS8 _ hq), (BN4 h).sep⟩
  · unfold AC9
    cases hob : AM7 sel b with
    | true =>
      obtain ⟨x, hx, hxb⟩ := Ab2 hob;rcases h.fresh x (AS9 _ hx) b hxb with h1 | h1
      · omega
      · obtain ⟨y, hy, hyb⟩ := List.mem_filterMap.1 (hG b h1)
        exact absurd hyb (At7 h.sep hx hy hxb)
    | false => exact h.rold b hb
  · have hk := h.owned q (AS8 _ hq)
    refine Own.ok_keep hk (AL9 hl) fun b hb => ⟨rfl, ?_⟩;unfold AC9
    cases hob : AM7 sel b with
    | true =>
      obtain ⟨x, hx, hxb⟩ := Ab2 hob;exact absurd hb (At7 h.sep hx hq hxb)
    | false => exact (Own.ok_blk hk hb).1
theorem z8 {env : List (Nat × AV)} {sel rest : List Own} {x y : AV} (is : List Nat) (t : Nat) (hp : pick own is = (sel, rest)) (ht : M0 t env = some x) (hl : AO0 sel x y) (hG : ∀ b, G b → b ∈ rest.filterMap Own.blk) : Le G n ⟨own, env⟩ ⟨rest, (t, y) :: env⟩ := fun w0 R0 R a w ⟨h1, h2, h3⟩ => by
  have hc := AV3 h1 hp;refine ⟨AC9 sel w R, AL9 (m5 hc), BO4 hc hG, fun k z hz => ?_, h3⟩;simp only [M0] at hz;by_cases hk : t = k
  · subst hk
    simp [Nat.beq_refl] at hz;rw [← hz];exact hl G w0 R0 R w _ (m5 hc) (h2 t x ht)
  · rw [AV8 hk, cond_false] at hz
    exact z.mono (AL9 (m5 hc)) (h2 k z hz)
theorem Ai6 {ops : Array Oper} {rest : List Oper} {env : List (Nat × AV)} {K : G5 → Prop} {d : Nat} {c : Bool} (hd : o.dst = some d) (hn : Nat.blt d n = true) (hg : F8 ops o (M0 · env) c)
    (ht : c = true → O9 P G n ops ({ o with guard := none } :: rest) ⟨own, env⟩ K) (hf : c = false → O9 P G n ops rest ⟨own, (d, AV.is undef) :: env⟩ K) : O9 P G n ops (o :: rest) ⟨own, env⟩ K := fun w0 R0 R a w hs => by
  have hgc := hg R a fun t _ y hy => hs.2.1 t y hy
  cases c with
  | true =>
    refine ⟨fun _ => ?_, fun hw => by rw [hgc] at hw; exact Bool.noConfusion hw⟩;exact (ht rfl w0 R0 R a w hs).1 rfl
  | false =>
    refine ⟨fun hw => by rw [hgc] at hw; exact Bool.noConfusion hw, fun _ => ⟨_, R, hf rfl, J1.refl _, ?_⟩⟩;obtain ⟨h1, h2, h3, h4⟩ := hs;refine ⟨h1, ?_, by rw [size_put]; exact h3, by rw [V6]; exact h4⟩;have := AJ8 (d := o.dst) (x := AV.is undef) (v := undef) h2 (J1.refl R) (fun q e => by rw [h3]; rw [hd] at e; injection e with e; subst e; exact Nat.blt_eq.mp hn) rfl;rw [hd] at this ⊢;exact this
theorem BJ0 {E : N1} {p : Operand} {b : Bool} {x : AV} (h : b = false) : Bz4 E p b x := fun hb => by rw [h] at hb; cases hb
def Q7 (x y : Int) : Int := IntKind.u64.wrap (((BitVec.ofInt IntKind.u64.bits x &&& BitVec.ofInt IntKind.u64.bits y).toNat : Nat) : Int)
theorem w_band {E : N1} {t ty : TypeId} {p q : Operand} {x y : Int} (ho : o.op = .binOp .and t p q ty) (hp : Ev E p (AV.ik .u64 x)) (hq : Ev E q (AV.ik .u64 y)) : OpW P G n own o E (AV.ik .u64 (Q7 x y)) := N0 fun R a w _ he => by
  have h1 : a.eval p = .int .u64 x := G0 hp M8 he;have h2 : a.eval q = .int .u64 y := G0 hq M8 he;exact ⟨.int .u64 (Q7 x y), by simp only [execOp, ho, h1, h2]; simp [go_sem]; rfl, rfl⟩
end
end Go.AV
namespace Go.AV
open Go
inductive OT3 where
  | nil
  | pure (i : Nat) (t : OT3)
  | e1 (i : Nat) (t : OT3)
  | e2 (i : Nat) (t : OT3) (j : Nat) (u : OT3)
  | e3 (i : Nat) (t : OT3) (j : Nat) (u : OT3) (k : Nat) (v : OT3)
def OT3.deep : OT3 → Nat → Bool
  | .nil, 0 => true
  | .pure _ t, f + 1 => t.deep f
  | .e1 _ t, f + 1 => t.deep f
  | .e2 _ t _ u, f + 1 => t.deep f && u.deep f
  | .e3 _ t _ u _ v, f + 1 => (t.deep f && u.deep f) && v.deep f
  | _, _ => false
def Ae7 (md : Region.Mode) (ops : Array Oper) (g m : Nat) : OT3 → Array Bool → Bool
  | .nil, listed => Region.seqB md ops g m listed
  | .pure i r, listed => (Region.ready md ops listed).contains i && Region.free md ops listed i && Nat.blt i m && Ae7 md ops g m r (listed.setIfInBounds i true)
  | .e1 i r, listed => decide (Region.ready md ops listed = [i]) && Nat.blt i m && Ae7 md ops g m r (listed.setIfInBounds i true)
  | .e2 i r j u, listed => decide (Region.ready md ops listed = [i, j]) && Nat.blt i m && Nat.blt j m && Ae7 md ops g m r (listed.setIfInBounds i true) && Ae7 md ops g m u (listed.setIfInBounds j true)
  | .e3 i r j u k v, listed => decide (Region.ready md ops listed = [i, j, k]) && Nat.blt i m && Nat.blt j m && Nat.blt k m && Ae7 md ops g m r (listed.setIfInBounds i true) && Ae7 md ops g m u (listed.setIfInBounds j true) && Ae7 md ops g m v (listed.setIfInBounds k true)
def treeB3 (md : Region.Mode) (ops : Array Oper) (m : Nat) (ord : OT3) : Bool :=
  decide (m < ops.size) && ord.deep m && Region.sinkB md ops m && Region.chainB md ops m && Ae7 md ops (ops.size - m) m ord (Array.replicate ops.size false)
section
variable {P : Program} {G : Nat → Prop} {n : Nat}
def BT3 (P : Program) (G : Nat → Prop) (n : Nat) (Inv : List Own → Prop) (ops : Array Oper) : OT3 → List (Nat × AV) → List Own → (List (Nat × AV) → List Own → Prop) → Prop
  | .nil, env, W, K => K env W
  | .pure i r, env, W, K => ∃ o, ops[i]? = some o ∧ ∃ x, (∀ W', Inv W' → OpA P G n W' ops o (M0 · env) x) ∧ BT3 P G n Inv ops r (BH7 o.dst x env) W K
  | .e1 i r, env, W, K => AU3 P G n Inv ops i env W fun env' W' => BT3 P G n Inv ops r env' W' K
  | .e2 i r j u, env, W, K => (AU3 P G n Inv ops i env W fun env' W' => BT3 P G n Inv ops r env' W' K) ∧ AU3 P G n Inv ops j env W fun env' W' => BT3 P G n Inv ops u env' W' K
  | .e3 i r j u k v, env, W, K => (AU3 P G n Inv ops i env W fun env' W' => BT3 P G n Inv ops r env' W' K) ∧ (AU3 P G n Inv ops j env W fun env' W' => BT3 P G n Inv ops u env' W' K) ∧ AU3 P G n Inv ops k env W fun env' W' => BT3 P G n Inv ops v env' W' K
theorem AQ8 {Inv : List Own → Prop} {md : Region.Mode} {ops : Array Oper} {m g : Nat} {K : List (Nat × AV) → List Own → Prop} (hs : Region.sinkB md ops m = true) (hc : Region.chainB md ops m = true) (hn : m < ops.size) :
    ∀ (l : OT3) (f : Nat) (listed : Array Bool) (env : List (Nat × AV)) (W : List Own), l.deep f = true → HeadInv md ops m listed → Inv W →
    Ae7 md ops g m l listed = true → BT3 P G n Inv ops l env W K →
    BC1 P G n Inv md ops m (fun listed' E W => Region.seqB md ops g m listed' = true ∧ ∃ env', E = (M0 · env') ∧ K env' W) f listed (M0 · env) W
  | .nil, 0, listed, env, W, _, _, _, hB, h => ⟨hB, env, rfl, h⟩
  | .nil, _ + 1, _, _, _, hdp, _, _, _, _ => by cases hdp
  | .pure _ _, 0, _, _, _, hdp, _, _, _, _ => by cases hdp
  | .e1 _ _, 0, _, _, _, hdp, _, _, _, _ => by cases hdp
  | .e2 _ _ _ _, 0, _, _, _, hdp, _, _, _, _ => by cases hdp
  | .e3 _ _ _ _ _ _, 0, _, _, _, hdp, _, _, _, _ => by cases hdp
  | .pure i l, f + 1, listed, env, W, hdp, inv, hW, hB, h => by
    simp only [Ae7, F0] at hB;obtain ⟨⟨⟨hr, hf⟩, hlt⟩, hB'⟩ := hB;have hkn : i < m := Nat.blt_eq.mp hlt;have hr' : i ∈ Region.ready md ops listed := by simpa using hr
    obtain ⟨o, ho, x, hx, hK⟩ := h;refine BA5 ho hs hc hn hkn (fun listed' E W hL => seqB_ready hL.1) f listed _ W inv hW (Region.free_spec ho hf) hr' hx ?_;rw [← n6];exact AQ8 hs hc hn l f _ _ W hdp (inv.set hr' hkn) hW hB' hK
  | .e1 i l, f + 1, listed, env, W, hdp, inv, hW, hB, h => by
    simp only [Ae7, F0, I4] at hB;obtain ⟨⟨hr, hlt⟩, hB'⟩ := hB;have hkn : i < m := Nat.blt_eq.mp hlt;have hr' : i ∈ Region.ready md ops listed := by rw [hr]; simp
    obtain ⟨o, ho, hg, α, ok, W', V, h1, h2, h3⟩ := h;refine ⟨fun h0 => Bb2, fun j hj => ?_⟩;rw [hr] at hj;have : j = i := by simpa using hj
    subst this;refine ⟨hkn, ?_⟩;unfold qB;simp only [ho];refine .inr ⟨hg, α, ok, W', V, h1, h2, fun a ha => ?_⟩;rw [← n6];exact AQ8 hs hc hn l f _ _ (W' a) hdp (inv.set hr' hkn) (h2 a ha) hB' (h3 a ha)
  | .e2 i l k u, f + 1, listed, env, W, hdp, inv, hW, hB, h => by
    simp only [Ae7, F0, I4] at hB;obtain ⟨⟨⟨⟨hr, hlt⟩, hlt2⟩, hB'⟩, hB2⟩ := hB;simp only [OT3.deep, F0] at hdp;have hkn : i < m := Nat.blt_eq.mp hlt;have hkn2 : k < m := Nat.blt_eq.mp hlt2;have hr' : i ∈ Region.ready md ops listed := by rw [hr]; simp
    have hr2 : k ∈ Region.ready md ops listed := by rw [hr]; simp
    obtain ⟨⟨o, ho, hg, α, ok, W', V, h1, h2, h3⟩, ⟨o', ho', hg', α', ok', W'', V', h1', h2', h3'⟩⟩ := h;refine ⟨fun h0 => Bb2, fun j hj => ?_⟩;rw [hr] at hj;simp only [O5, List.not_mem_nil, or_false] at hj;rcases hj with hj | hj
    · subst hj
      refine ⟨hkn, ?_⟩;unfold qB;simp only [ho];refine .inr ⟨hg, α, ok, W', V, h1, h2, fun a ha => ?_⟩;rw [← n6];exact AQ8 hs hc hn l f _ _ (W' a) hdp.1 (inv.set hr' hkn) (h2 a ha) hB' (h3 a ha)
    · subst hj
      refine ⟨hkn2, ?_⟩;unfold qB;simp only [ho'];refine .inr ⟨hg', α', ok', W'', V', h1', h2', fun a ha => ?_⟩;rw [← n6];exact AQ8 hs hc hn u f _ _ (W'' a) hdp.2 (inv.set hr2 hkn2) (h2' a ha) hB2 (h3' a ha)
  | .e3 i l k u q v, f + 1, listed, env, W, hdp, inv, hW, hB, h => by
    simp only [Ae7, F0, I4] at hB;obtain ⟨⟨⟨⟨⟨⟨hr, hlt⟩, hlt2⟩, hlt3⟩, hB'⟩, hB2⟩, hB3⟩ := hB;simp only [OT3.deep, F0] at hdp;have hkn : i < m := Nat.blt_eq.mp hlt;have hkn2 : k < m := Nat.blt_eq.mp hlt2;have hkn3 : q < m := Nat.blt_eq.mp hlt3;have hr' : i ∈ Region.ready md ops listed := by rw [hr]; simp
    have hr2 : k ∈ Region.ready md ops listed := by rw [hr]; simp
    have hr3 : q ∈ Region.ready md ops listed := by rw [hr]; simp
    obtain ⟨⟨o, ho, hg, α, ok, W', V, h1, h2, h3⟩, ⟨o', ho', hg', α', ok', W'', V', h1', h2', h3'⟩, ⟨o3, ho3, hg3, α3, ok3, W3, V3, h13, h23, h33⟩⟩ := h;refine ⟨fun h0 => Bb2, fun j hj => ?_⟩;rw [hr] at hj;simp only [O5, List.not_mem_nil, or_false] at hj;rcases hj with hj | hj | hj
    · subst hj
      refine ⟨hkn, ?_⟩;unfold qB;simp only [ho];refine .inr ⟨hg, α, ok, W', V, h1, h2, fun a ha => ?_⟩;rw [← n6];exact AQ8 hs hc hn l f _ _ (W' a) hdp.1.1 (inv.set hr' hkn) (h2 a ha) hB' (h3 a ha)
    · subst hj
      refine ⟨hkn2, ?_⟩;unfold qB;simp only [ho'];refine .inr ⟨hg', α', ok', W'', V', h1', h2', fun a ha => ?_⟩;rw [← n6];exact AQ8 hs hc hn u f _ _ (W'' a) hdp.1.2 (inv.set hr2 hkn2) (h2' a ha) hB2 (h3' a ha)
    · subst hj
      refine ⟨hkn3, ?_⟩;unfold qB;simp only [ho3];refine .inr ⟨hg3, α3, ok3, W3, V3, h13, h23, fun a ha => ?_⟩;rw [← n6];exact AQ8 hs hc hn v f _ _ (W3 a) hdp.2 (inv.set hr3 hkn3) (h23 a ha) hB3 (h33 a ha)
theorem Bj5 {id : Nat} {l : List Oper} {Q : Exit → G5 → Prop} {env : List (Nat × AV)} {own : List Own} (base : List Own) (m : Nat) (ord : OT3) (hm : P.follows .mixedOrders = true) (hB : treeB3 .any l.toArray m ord = true) (hd : Bd5 n l = true) (hb : AZ8 base own)
  (h : BT3 P G n (AZ8 base) l.toArray ord env own (fun env' W => O9 P G n l.toArray (l.drop m) ⟨W, env'⟩ (Q .normal))) : AWP P G n (.region id l.toArray true) Q ⟨own, env⟩ := fun w0 R0 R a w ⟨h1, h2, h3, h4⟩ => by
 simp only [treeB3, F0, I4] at hB;obtain ⟨⟨⟨⟨hn, hdp⟩, hs⟩, hc⟩, hlex⟩ := hB;have hn' : m < l.length := by simpa using hn
 have hdl : (l.drop m).length = l.toArray.size - m := by simp
 have inv0 : HeadInv .any l.toArray m (Array.replicate l.toArray.size false) :=
  ⟨by simp, fun j oj _ hl => CL3, fun t _ ht => getD_in (by simpa using ht) (getD_replicate_false _ _)⟩
 have H := AQ8 (g := l.toArray.size - m) hs hc hn ord m _ env own hdp inv0 hb hlex h;refine wp_region_any hm ?_;have := AW2 (w0 := w0) (R0 := R0) (R00 := R) (g := l.toArray.size - m) (Q' := fun e a' w' => ∃ s' R', Q e s' ∧ J1 R R' ∧ St G n w0 R0 s' R' a' w') (fun i o ho d e => Am0 hd i o (by simpa using ho) d e) (fun listed E W R' a' w' g1 g2 g3 g4 g5 hL => by
  obtain ⟨hL1, env', rfl, hL2⟩ := hL
  have := wpAny_of_seq (P := P) (md := .any) (Q' := fun e a' w' => ∃ s' R', Q e s' ∧ J1 R R' ∧ St G n w0 R0 s' R' a' w') (l.drop m) m listed a' w' (fun j => by simp [AX2]) (by rw [hdl]; exact hL1)
   (AL7 (R00 := R) (K := Q .normal) (fun s' R' a w q r1 r2 => ⟨s', R', q, r1, r2⟩) _ (⟨W, env'⟩ : G5) R' a' w' g1 ⟨g2, g3, g4, g5⟩ hL2)
  rwa [hdl] at this) _ _ _ own R a _ (J1.refl _) (Aj8 h1) h2 h3 h4 H
 rw [show m + (l.toArray.size - m) = l.toArray.size by omega] at this;exact this
section
variable {ops : Array Oper} {i j : Nat} {o : Oper} {r u : OT3} {env : List (Nat × AV)} {W : List Own} {base : List Own} {K : List (Nat × AV) → List Own → Prop} {d : Nat} {x : AV}
theorem bt3_nil {Inv : List Own → Prop} (h : K env W) : BT3 P G n Inv ops .nil env W K := h
theorem AQ9 (ho : ops[i]? = some o) (hg : o.guard = none) (hd : o.dst = some d) (h : ∀ ext, OpW P G n (base ++ ext) o (M0 · env) x) (k : BT3 P G n (AZ8 base) ops r ((d, x) :: env) W K) : BT3 P G n (AZ8 base) ops (.pure i r) env W K :=
  ⟨o, ho, x, fun W' ⟨ext, e⟩ => by subst e; exact At5 hg (h ext), by rw [hd]; exact k⟩
theorem bt3_e1 {Inv : List Own → Prop} (h : AU3 P G n Inv ops i env W fun env' W' => BT3 P G n Inv ops r env' W' K) : BT3 P G n Inv ops (.e1 i r) env W K := h
theorem bt3_e3 {Inv : List Own → Prop} {q : Nat} {v : OT3} (h : AU3 P G n Inv ops i env W fun env' W' => BT3 P G n Inv ops r env' W' K) (k : AU3 P G n Inv ops j env W fun env' W' => BT3 P G n Inv ops u env' W' K) (k3 : AU3 P G n Inv ops q env W fun env' W' => BT3 P G n Inv ops v env' W' K) : BT3 P G n Inv ops (.e3 i r j u q v) env W K := ⟨h, k, k3⟩
theorem CP6 {Inv : List Own → Prop} (h : AU3 P G n Inv ops i env W fun env' W' => BT3 P G n Inv ops r env' W' K) (k : AU3 P G n Inv ops j env W fun env' W' => BT3 P G n Inv ops u env' W' K) : BT3 P G n Inv ops (.e2 i r j u) env W K := ⟨h, k⟩
end
end
section
variable {P : Program} {G : Nat → Prop} {n : Nat}
end
section
variable {P : Program} {G : Nat → Prop} {n : Nat} {own : List Own} {o : Oper}
theorem X1 {E : N1} {e : TypeId} {p : Operand} {k sz : Nat} {v : Value} {es : List (List AV)} {ys : List AV} (i : Nat) (ho : o.op = .nilCheck p) (hp : Ev E p (AV.is (AC8 v (k * sz)))) (hi : own[i]? = some (.arr v e sz es)) (hy : es[k]? = some ys) (h0 : Nat.blt 0 sz = true) : OpW P G n own o E (AV.is (AC8 v (k * sz))) := AG3 fun w0 R0 R a w hc he => by
  have e1 : a.eval p = _ := G0 hp M8 he;have hok := hc.owned _ (C3 hi);have hu := hok.2.1;have hyl : ys.length = sz := hu ys (C3 hy);have hb1 := Nat.blt_eq.mp h0;obtain ⟨g, u0, h1, _⟩ := Ab3 hok (AG0 hu hy (O1 (show 0 < ys.length by omega)));rw [Nat.add_zero] at h1;rw [h1] at e1;refine ⟨_, ?_, show AC8 v (k * sz) = _ from rfl⟩;rw [h1];simp only [execOp, ho, e1, Sem.run_pure]
end
end Go.AV
namespace Go.AV
def AV.wt (T : World → Prop) (x : AV) : AV := ⟨fun R v => x.den R v ∧ ∀ w' : World, RLe R w' → T w', fun h ⟨a, b⟩ => ⟨x.mono h a, fun w' hw => b w' fun b o e => hw b o (h b o e)⟩⟩
section
variable {P : Program} {G : Nat → Prop} {n : Nat} {own : List Own} {o : Oper} {E : N1}
theorem core_tab {w0 w : World} {R0 R : G4} {T : World → Prop} (h : S6 G w0 R0 own R w) (ht : ∀ w' : World, RLe R w' → T w') : S6 G w0 R0 (.tab T :: own) R w where
  os := h.os
  tape := h.tape
  output := h.output
  size := h.size
  block := h.block
  rle := h.rle
  rold := h.rold
  owned o ho := by
    rcases O5.1 ho with rfl | ho
    · exact ht
    · exact h.owned o ho
  fresh o ho b hb := by
    rcases O5.1 ho with rfl | ho
    · cases hb
    · exact h.fresh o ho b hb
  sep := by
    rw [AM3];exact h.sep
theorem le_tab {env : List (Nat × AV)} {t : Nat} {x : AV} {T : World → Prop} (ht : M0 t env = some (AV.wt T x)) : Le G n ⟨own, env⟩ ⟨.tab T :: own, (t, x) :: env⟩ := fun w0 R0 R a w ⟨h1, h2, h3⟩ => by
  have hx := h2 t _ ht;refine ⟨R, J1.refl _, core_tab h1 hx.2, fun k z hz => ?_, h3⟩;simp only [M0] at hz;by_cases hk : t = k
  · subst hk
    simp [Nat.beq_refl] at hz;rw [← hz];exact hx.1
  · rw [AV8 hk, cond_false] at hz
    exact h2 k z hz
theorem fspec_wt {f : FuncId} {x y : AV} {T : World → Prop} (h : ∀ (R : G4) (w : World) (v : Value), RLe R w → x.den R v → T w → Calls P f #[v] w fun e w' => ∃ u, e = .returned u ∧ y.den R u ∧ Go.RowKit.Below w.heap.size w w') : J3 P f [AV.wt T x] y := fun R w vs hr hd => by
  match vs, hd.1 with
  | [v], _ =>
    have h1 := hd.2 0 v _ rfl rfl;refine (h R w v hr h1.1 (h1.2 w hr)).mono fun e w' ⟨u, h2, h3, h4⟩ => ⟨u, R, h2, h3, fun b o hb => ?_, fun _ _ => rfl, h4⟩;have hb2 := hr b o hb;rw [h4.block b (AT0.1 hb2).1]; exact hb2
theorem CZ8 (w : World) (k : Nat) (os : Array Obj) : Go.RowKit.Below w.heap.size w (Go.Sort.grow (w.drewN k) os) :=
  ⟨rfl, rfl, rfl, by rw [Go.Sort.size_grow]; exact Nat.le_add_right _ _, fun b hb => Go.Sort.heap_grow_old (w.drewN k) os hb⟩
theorem Ck0 {P : Program} {W w' : World} {name : String} {k : IntKind} {zs : List Int} (h : Lib.TabIs P W name k zs) (hw : RLe (Ay2 W) w') : Lib.TabIs P w' name k zs := by
  unfold Lib.TabIs World.var? at h ⊢
  cases hg : P.globalNamed name with
  | none => rw [hg] at h; cases h
  | some g =>
    rw [hg] at h;simp only [Option.bind_some] at h ⊢
    cases ho : W.heap[g]? with
    | none => rw [ho] at h; cases h
    | some o =>
      rw [ho] at h;rw [hw g o ho];exact h
end
end Go.AV
namespace Go.AV
open Go.RowKit (Below)
section
variable {P : Program} {G : Nat → Prop} {n : Nat} {own : List Own} {o : Oper} {E : N1}
theorem Cf5 {f : FuncId} {args : Array Operand} {tys : Array TypeId} {ps : List Operand} {x : AV} {xs : List AV} {y : AV} {T T' : World → Prop} (i : Nat) (hi : own[i]? = some (.tab T')) (ho : o.op = .call { callee := .value (.func f), args := args, argTypes := tys }) (hc : ∀ (vs : Array Value) (w : World), (callFunc f vs).run P w = .ok (.enter f vs) w)
    (hps : args.toList = ps) (hs : J3 P f (AV.wt T x :: xs) y) (he : EvL E ps (x :: xs)) (hT : ∀ w, T' w → T w) : OpW P G n own o E y := fun w0 R0 R a w hcore _ hen => by
  have hd := Ad2 hen he fun p hp => by simp [ho, Op.operands, Call.operands]; right; rw [← hps] at hp; exact Array.mem_toList_iff.1 hp
  have htab : ∀ w' : World, RLe R w' → T w' := fun w' hw' => hT w' ((hcore.owned _ (C3 hi)) w' hw');have hd2 : o6 R (ps.map a.eval) (AV.wt T x :: xs) := ⟨hd.1, fun j v z hv hz => by
    cases j with
    | zero =>
      simp at hz; subst hz;exact ⟨hd.2 0 v x hv rfl, htab⟩
    | succ j => exact hd.2 (j + 1) v z hv hz⟩
  have hrun : (execOp a.eval o).run P w = .ok (.enter f (ps.map a.eval).toArray) w := by
    have hargs : args.map a.eval = (ps.map a.eval).toArray := by rw [← hps]; cases args; simp
    simp only [execOp, ho, resolve, hargs, show a.eval (.func f) = .func (.func f) #[] #[] from rfl];simp [Deferred.ofValue, invoke, hc]
  unfold Oper.wp;rw [hrun, Oper.upon_enter];refine (hs R w _ hcore.rle hd2).mono fun e w' ⟨v, R', e1, e2, e3, e4, e5⟩ => ?_;subst e1;exact ⟨v, R', rfl, hcore.step e5 e3 e4, AP7 hcore.rle e4, e2⟩
theorem CH6 {H : Type} {enc : TypeId × Value → H} {a : Assume} {C : Checked} {os : Os} {f : FuncId} {fn : Func} {s : ChangeSpec} {conds : List PathCond} {apart fresh handsOn again : Bool} {X : World → Array Value → Prop}
    (hX : ∀ (w w' : World) (args : Array Value), w.heap = w'.heap → X w args → X w' args)
    (own : ownKnob C.prog.godebug = none) (started : os.Started) (noInit : C.prog.inits.idxOf? f = none) (hfn : C.prog.funcs[f]? = some fn)
    (witness : ∃ (w : World) (tape : Tape) (i : Input), w.os = os ∧ (w.forCall tape i).Shaped C.prog ∧ i.vars = [] ∧ Input.okWide C.prog (w.forCall tape i) .any w.heap.size f i ∧
      ((s.pre enc C.prog fn conds apart (w.forCall tape i).memory i.args ∧ X (w.forCall tape i).memory i.args) ∧ sizedMet enc C.prog fn (OpenSpec.ofChange s) apart (w.forCall tape i).memory i.args) ∧ a.holds C.prog (lone (Frame.enter C.prog f i.args .normal) [] (w.forCall tape i)))
    (contract : ∀ (W : World) (base : Nat) (args : Array Value) (ds gs : List (DataW H)) (before : List MemPlace),
      (∀ (j : Nat) t v, fn.params[j]? = some t → args[j]? = some v → Value.okWide C.prog W .any base t v) →
      DataW.Whole enc C.prog fn.params.toList s.vars apart W args.toList ds gs before →
      W.ShapedOpen C.prog →
      (DataW.weightsEach C.prog (fn.params.toList ++ s.plain.varTypes C.prog) (ds ++ gs)).all (· ≤ reachBytes) = true → X W args →
      a.holds C.prog (lone (Frame.enter C.prog f args .normal) [] W) →
      Calls C.prog f args W fun e W' => ∃ v, e = .returned v ∧ s.post enc C.prog fn apart fresh handsOn again W args v W') :
    ReturnsInHanded a C os f .any (fun w args => (s.pre enc C.prog fn conds apart w args ∧ X w args) ∧ sizedMet enc C.prog fn (OpenSpec.ofChange s) apart w args) (s.post enc C.prog fn apart fresh handsOn again) := by
  refine returnsInHanded_of_calls own started noInit witness ?_;intro w tape i _ hsh _ hok hpre hholds;obtain ⟨_, _, _, fn', hfn', _, _, _, _, hval⟩ := hok;have e : fn' = fn := Option.some.inj (hfn'.symm.trans hfn);subst e;obtain ⟨⟨⟨ds, gs, before, hw, hc⟩, hx⟩, hz⟩ := hpre;have hw' := DataW.Whole.of_heap (w' := w.forCall tape i) B7 hw;refine (contract (w.forCall tape i) w.heap.size i.args ds gs before hval hw' hsh (hz.weights hw) (hX _ _ _ B7 hx) hholds).mono fun e W' ⟨v, he, hp⟩ => ?_;subst he;exact ChangeSpec.post_blind hp
end
end Go.AV
namespace Go.AV
theorem P0 {α β : Type} {f : α → β} {l : List α} {i : Nat} {x : α} (h : l[i]? = some x) : (l.map f)[i]? = some (f x) := by rw [Y6, h]; rfl
theorem B0 {α : Type} {l : List α} {i : Nat} {x y : α} (h : l[i]? = some y) : (l.set i x)[i]? = some x := AR3 (F4.1 h).1
section
variable {P : Program} {G : Nat → Prop} {n : Nat} {own : List Own} {o : Oper} {E : N1}
theorem n3 {f : FuncId} {args : Array Operand} {tys : Array TypeId} {ps : List Operand} {xs : List AV} {y : AV} {s1 r1 : List Own} (is : List Nat) (m : Nat) (B D : List Own) (ho : o.op = .call { callee := .value (.func f), args := args, argTypes := tys })
    (hc : ∀ (vs : Array Value) (w : World), (callFunc f vs).run P w = .ok (.enter f vs) w) (hps : args.toList = ps) (hp : pick own is = (s1, r1)) (hB : (r1.drop m).Perm (B ++ D)) (hs : K0 P f xs (s1 ++ B) (fun _ : Unit => True) (fun _ => s1 ++ B) (fun _ => y)) (he : EvL E ps xs) : OpW P G n own o E y := fun w0 R0 R a w hcore0 _ hen => by
  have hperm : own.Perm ((s1 ++ B) ++ (r1.take m ++ D)) := by
    refine (BO0 hp).trans ?_;have h1 : r1.Perm (r1.take m ++ (B ++ D)) := by
      have := List.Perm.append_left (r1.take m) hB
      rwa [Aa7] at this
    refine (List.Perm.append_left s1 h1).trans ?_;rw [e6];refine List.Perm.append_left s1 ?_;rw [← e6, ← e6];exact List.Perm.append_right D AM5
  have hcore := AB3 hcore0 hperm;have hd := Ad2 hen he fun p hp => by simp [ho, Op.operands, Call.operands]; right; rw [← hps] at hp; exact Array.mem_toList_iff.1 hp
  have hrun : (execOp a.eval o).run P w = .ok (.enter f (ps.map a.eval).toArray) w := by
    have hargs : args.map a.eval = (ps.map a.eval).toArray := by rw [← hps]; cases args; simp
    simp only [execOp, ho, resolve, hargs, show a.eval (.func f) = .func (.func f) #[] #[] from rfl];simp [Deferred.ofValue, invoke, hc]
  unfold Oper.wp;rw [hrun, Oper.upon_enter];refine (hs R w _ hcore.rle hd (fun q hq => hcore.owned q (AS9 _ hq)) (m5 hcore).sep).mono fun e w' ⟨x, v, R', e0, e1, e2, e3⟩ => ?_;subst e1;exact ⟨v, R', rfl, AB3 (Am2 hcore e3) hperm.symm, AP7 hcore.rle e3.rold, e2⟩
end
section
variable {P : Program} {G : Nat → Prop} {n : Nat} {own : List Own} {o : Oper}
def BR6 (sel : List Own) : Own → Own → Prop
  | .box b t cs, .box b' t' cs' => b = b' ∧ t = t' ∧ AD0 sel cs cs'
  | .arr v t sz es, .arr v' t' sz' es' => v = v' ∧ t = t' ∧ sz = sz' ∧ As9 sel es es'
  | .frz b t cs, .frz b' t' cs' => b = b' ∧ t = t' ∧ AD0 sel cs cs'
  | .tab T, .tab T' => T = T'
  | .obj b D, .obj b' D' => b = b' ∧ D = D'
  | _, _ => False
def BF5 (sel own own' : List Own) : Prop := own.length = own'.length ∧ ∀ (i : Nat) (q q' : Own), own[i]? = some q → own'[i]? = some q' → BR6 sel q q'
theorem BA6 {sel : List Own} : BF5 sel [] [] := ⟨rfl, fun i q q' h => by simp at h⟩
theorem BJ1 {sel a b : List Own} {q q' : Own} (h : BR6 sel q q') (k : BF5 sel a b) : BF5 sel (q :: a) (q' :: b) := ⟨by simp [k.1], fun i x y hx hy => by
  cases i with
  | zero => simp at hx hy; subst hx; subst hy; exact h
  | succ i => exact k.2 i x y AS0 Aw4⟩
theorem oc_blk {sel : List Own} {q q' : Own} (h : BR6 sel q q') : Own.blk q = Own.blk q' := by
  cases q <;> cases q' <;> unfold BR6 at h <;> first | exact h.elim | skip
  · exact D7 some h.1
  · exact D7 Value.ownBlock h.1
  · exact D7 some h.1
  · rfl
  · exact D7 some h.1
theorem oc_map {sel a b : List Own} (h : BF5 sel a b) : a.map Own.blk = b.map Own.blk := by
  refine List.ext_getElem? fun i => ?_;rw [Y6, Y6]
  cases ha : a[i]? with
  | none =>
    have : b[i]? = none := by rw [List.getElem?_eq_none_iff] at ha ⊢; rw [← h.1]; exact ha
    rw [this]
  | some q =>
    have hi : i < b.length := by rw [← h.1]; exact (F4.1 ha).1
    rw [O1 hi];exact D7 some (oc_blk (h.2 i q _ ha (O1 hi)))
theorem oc_fm {sel a b : List Own} (h : BF5 sel a b) : a.filterMap Own.blk = b.filterMap Own.blk := by
  have := D7 (List.filterMap id) (oc_map h)
  rwa [List.filterMap_map, List.filterMap_map] at this
theorem BV4 {sel : List Own} {xs ys : List AV} {w0 : World} {R0 R : G4} {w : World} {vs : List Value} (hc : S6 G w0 R0 sel R w) (h : n5 R vs xs) (k : AD0 sel xs ys) : n5 (AC9 sel w R) vs ys :=
  ⟨h.1.trans k.1, fun i v y hv hy => by
    have hi : i < xs.length := by rw [k.1]; exact (F4.1 hy).1
    have hx := O1 hi;obtain ⟨h1, h2⟩ := h.2 i v _ hv hx;exact ⟨k.2 i _ y hx hy G w0 R0 R w v hc h1, h2⟩⟩
theorem BO5 {sel rest rest' : List Own} {w0 : World} {R0 R : G4} {w : World} (h : S6 G w0 R0 (sel ++ rest) R w) (hG : ∀ b, G b → b ∈ rest.filterMap Own.blk) (hl : BF5 sel rest rest') : S6 G w0 R0 rest' (AC9 sel w R) w := by
  have hb := BO4 h hG;have hs := m5 h;refine ⟨hb.os, hb.tape, hb.output, hb.size, hb.block, hb.rle, hb.rold, fun q' hq' => ?_, fun q' hq' b hqb => ?_, ?_⟩
  · obtain ⟨i, hi⟩ := j4 hq'
    have hir : i < rest.length := by rw [hl.1]; exact (F4.1 hi).1
    have hr := O1 hir;have hm := C3 hr;have hoc := hl.2 i _ q' hr hi;have k1 := hb.owned _ hm;have k2 := h.owned _ (AS8 _ hm)
    revert hoc k1 k2
    generalize rest[i] = q
    intro hoc k1 k2
    cases q <;> cases q' <;> unfold BR6 at hoc <;> first | exact hoc.elim | skip
    · obtain ⟨rfl, rfl, hc⟩ := hoc
      obtain ⟨_, vs, hv, hd⟩ := k2;exact ⟨k1.1, vs, hv, BV4 hs hd hc⟩
    · obtain ⟨rfl, rfl, rfl, hc⟩ := hoc
      obtain ⟨_, hlen, xs, hx, hd⟩ := k2;refine ⟨k1.1, fun e he => ?_, xs, ?_, BV4 hs hd (Bw3 hc)⟩
      · obtain ⟨j, hj⟩ := j4 he
        have hje := O1 (show j < _ from hc.1.symm ▸ (F4.1 hj).1);rw [← (hc.2 j _ e hje hj).1];exact hlen _ (C3 hje)
      · rw [← hc.1]; exact hx
    · obtain ⟨rfl, rfl, hc⟩ := hoc
      obtain ⟨_, vs, hv, hd⟩ := k2;exact ⟨k1.1, vs, hv, BV4 hs hd hc⟩
    · exact hoc ▸ k1
    · obtain ⟨rfl, rfl⟩ := hoc
      exact ⟨k1.1, k2.2⟩
  · have hm : (some b) ∈ rest'.map Own.blk := n8.2 ⟨q', hq', hqb⟩
    rw [← oc_map hl] at hm;obtain ⟨q, hq, hqb2⟩ := n8.1 hm;exact hb.fresh q hq b hqb2
  · rw [← oc_fm hl]; exact hb.sep
theorem AS2 {α β : Type} {f : FuncId} {xs : List AV} {inw : List Own} {ok : α → Prop} {O : α → List Own} {V : α → AV} {ok' : β → Prop} {O' : β → List Own} {V' : β → AV} (g : α → β) (S rest : α → List Own) (hs : K0 P f xs inw ok O V)
    (hok : ∀ a, ok a → ok' (g a)) (hV : ∀ a, ok a → AO0 (S a) (V a) (V' (g a))) (hp : ∀ a, ok a → (O a).Perm (S a ++ rest a)) (hG : ∀ a, ok a → ∀ b, AY3 inw b → b ∈ (rest a).filterMap Own.blk) (hl : ∀ a, ok a → BF5 (S a) (rest a) (O' (g a))) : K0 P f xs inw ok' O' V' := fun R w vs hr hd ho hn =>
  (hs R w vs hr hd ho hn).mono fun e w' ⟨a, v, R', h0, h1, h2, h3⟩ => by
    have hc := AB3 h3 (hp a h0);exact ⟨g a, v, AC9 (S a) w' R', hok a h0, h1, hV a h0 _ _ _ R' w' v (m5 hc) h2, BO5 hc (hG a h0) (hl a h0)⟩
theorem oc_refl {sel : List Own} (q : Own) : BR6 sel q q := by
  cases q with
  | box b t cs => exact ⟨rfl, rfl, AE9⟩
  | arr v t sz es => exact ⟨rfl, rfl, rfl, G6⟩
  | frz b t cs => exact ⟨rfl, rfl, AE9⟩
  | tab T => exact rfl
  | obj b D => exact ⟨rfl, rfl⟩
theorem oc_set {sel l : List Own} {i : Nat} {q q' : Own} (hi : l[i]? = some q) (hc : BR6 sel q q') : BF5 sel l (l.set i q') := ⟨by simp, fun j x y hx hy => by
  by_cases h : i = j
  · subst h
    rw [AR3 (F4.1 hi).1] at hy;rw [hi] at hx;injection hx with hx; injection hy with hy; subst hx; subst hy; exact hc
  · rw [Aa8 h, hx] at hy
    injection hy with hy; subst hy; exact oc_refl _⟩
theorem Ai7 {env : List (Nat × AV)} {q : Own} (k i : Nat) (q' : Own) (hi : (own.take k)[i]? = some q) (hc : BR6 (own.drop k) q q') (hG : ∀ b, G b → b ∈ (own.take k).filterMap Own.blk) : Le G n ⟨own, env⟩ ⟨(own.take k).set i q', env⟩ := fun w0 R0 R a w ⟨h1, h2, h3⟩ => by
  have h9 := AM5 (l₁ := own.drop k) (l₂ := own.take k);rw [Aa7] at h9;have hp : S6 G w0 R0 (own.drop k ++ own.take k) R w := AB3 h1 h9.symm;exact ⟨AC9 (own.drop k) w R, AL9 (m5 hp), BO5 hp hG (oc_set hi hc), fun t z hz => z.mono (AL9 (m5 hp)) (h2 t z hz), h3⟩
theorem Ap5 {env : List (Nat × AV)} {sel rest : List Own} {q : Own} (is : List Nat) (i : Nat) (q' : Own) (hp : pick own is = (sel, rest)) (hi : rest[i]? = some q) (hc : BR6 sel q q') (hG : ∀ b, G b → b ∈ rest.filterMap Own.blk) : Le G n ⟨own, env⟩ ⟨rest.set i q', env⟩ := fun w0 R0 R a w ⟨h1, h2, h3⟩ => by
  have hk := AV3 h1 hp;exact ⟨AC9 sel w R, AL9 (m5 hk), BO5 hk hG (oc_set hi hc), fun t z hz => z.mono (AL9 (m5 hk)) (h2 t z hz), h3⟩
section
variable {T X : Type} {ocs : T → X → List AV} {cs : T → List AV} {ow : T → X → List Own}
theorem BE1 {own : List Own} {l : List T} {xs : List X} (hlc : ∀ p x, (∀ o ∈ ow p x, o ∈ own) → AD0 own (ocs p x) (cs p)) (hlen : xs.length = l.length) (hm : ∀ o ∈ nin ow l xs, o ∈ own) : As9 own (L7 ocs l xs) (l.map cs) := by
  refine ⟨by rw [W7 hlen, A6], fun j a b ha hb => ?_⟩;rw [Y6] at hb
  cases hp : l[j]? with
  | none => rw [hp] at hb; cases hb
  | some p =>
    rw [hp] at hb;have hj := (F4.1 hp).1;obtain ⟨x, hx⟩ : ∃ x, xs[j]? = some x := ⟨_, O1 qz8⟩;rw [T7 hp hx] at ha;injection ha with ha; injection hb with hb; subst ha; subst hb
    exact hlc p x fun o ho => hm o (Bc3 hp hx o ho)
end
end
section
variable {P : Program} {G : Nat → Prop} {n : Nat} {own : List Own} {o : Oper}
end
end Go.AV
namespace Go.AV
open Go.RowKit (Below)
section
variable {P : Program} {G : Nat → Prop} {n : Nat} {own : List Own} {o : Oper} {E : N1}
def Z8 (own : List Own) (E : N1) (q : Operand) (sz : Nat) (fs : List (List AV)) : Prop :=
  ∀ (G : Nat → Prop) (w0 : World) (R0 R : G4) (a : Act) (w : World), S6 G w0 R0 own R w → (∀ t, q = .tmp t → ∀ y, E t = some y → y.den R (a.tmps.getD t undef)) →
    (∀ f ∈ fs, f.length = sz) ∧ ∃ oa cap vs, a.eval q = .slice oa fs.length cap ∧ (fs ≠ [] → ∃ ad, oa = some ad ∧ (∀ j u, vs[j]? = some u → w.cell? (ad.add j) = some u) ∧ n5 R vs fs.flatten)
theorem CP7 {α : Type} {f : α → List AV} {l : List α} {v : Value} {e : TypeId} {sz lo k : Nat} (hm : Own.arr v e sz (l.map f) ∈ own) (hlo : lo = k) (hk : k ≤ l.length) : AO0 own (AV.is (Ay4 lo sz v)) (AV.list sz ((l.drop k).map f)) := fun G w0 R0 R w u hc hu => by
  subst hlo
  cases (show u = Ay4 lo sz v from hu)
  obtain ⟨_, _, xs, hown, _⟩ := hc.owned _ hm;obtain ⟨oa, c, hv, hnc⟩ := BM9 hown;have h1 := M1 hm G6 G w0 R0 R w v hc rfl;obtain ⟨oa', c', e1, k1, k2, k3, k4⟩ := h1;subst e1;have h9 := BN2 (R := AC9 own w R) (lo := lo) (hi := (l.map f).length) (es := l.map f) (oa := oa') rfl k1 k2 k3 k4 (by rw [A6]; exact hk) (L5 _);rw [As8, ← List.map_drop] at h9;exact h9
end
end Go.AV
namespace Go.AV
section
variable {P : Program} {G : Nat → Prop} {n : Nat} {own : List Own} {env : List (Nat × AV)} {fn : Func}
theorem BV5 {sel : List Own} {cs : List AV} {sz : Nat} (j : Nat) (h : cs[j]? = some AV.nils) : AD0 sel cs (cs.set j (AV.list sz [])) := ⟨by rw [V4], fun i x y hx hy => by
  by_cases e : j = i
  · subst e
    rw [AR3 (F4.1 h).1] at hy;rw [h] at hx;injection hx with hx; injection hy with hy; subst hx; subst hy
    exact Bc2
  · rw [Aa8 e, hx] at hy
    injection hy with hy; subst hy; exact J0⟩
theorem Ab5 {o : Oper} {ops : Array Oper} {E : N1} {α : Type} {ok : α → Prop} {W' : α → List Own} {V : α → AV} {sel rest : α → List Own} {Y : α → AV} (is : List Nat) (hp : ∀ a, pick (W' a) is = (sel a, rest a)) (hl : ∀ a, AO0 (sel a) (V a) (Y a)) (hG : ∀ a b, G b → b ∈ (rest a).filterMap Own.blk)
    (h : OpE P G n own ops o E ok W' V) : OpE P G n own ops o E ok rest Y := fun w0 R0 R a w h1 h2 h3 =>
  Oper.wp_mono2 (fun a' w' ⟨x, v, R', e0, e1, e2, e3, e4⟩ =>
    have hk := AV3 e2 (hp x)
    ⟨x, v, AC9 (sel x) w' R', e0, e1, BO4 hk (hG x), e3.trans (AL9 (m5 hk)), hl x G w0 R0 R' w' v (m5 hk) e4⟩) (fun _ _ _ h => h) (h w0 R0 R a w h1 h2 h3)
theorem Ad4 (i j sz : Nat) {b : Nat} {t : TypeId} {cs : List AV} (hi : own[i]? = some (.box b t cs)) (hj : cs[j]? = some AV.nils) (hG : ∀ b, G b → b ∈ own.filterMap Own.blk) : Le G n ⟨own, env⟩ ⟨own.set i (.box b t (cs.set j (AV.list sz []))), env⟩ :=
  Ap5 [] i (.box b t (cs.set j (AV.list sz []))) rfl hi ⟨rfl, rfl, BV5 j hj⟩ hG
theorem CP8 {α : Type} {ok : α → Prop} {O : α → List Own} {V : α → AV} (i j sz : Nat) {b : Nat} {t : TypeId} {cs : List AV} (hi : own[i]? = some (.box b t cs)) (hj : cs[j]? = some AV.nils) (hG : ∀ b, G b → b ∈ own.filterMap Own.blk)
    (k : H5 P G n fn ⟨own.set i (.box b t (cs.set j (AV.list sz []))), env⟩ ok O V) : H5 P G n fn ⟨own, env⟩ ok O V := fun w0 R0 R a w hs => by
  have hle : Le G n ⟨own, env⟩ ⟨own.set i (.box b t (cs.set j (AV.list sz []))), env⟩ := Ap5 [] i (.box b t (cs.set j (AV.list sz []))) rfl hi ⟨rfl, rfl, BV5 j hj⟩ hG;obtain ⟨R1, h1, h2⟩ := hle w0 R0 R a w hs;obtain ⟨x, v, R2, g0, g1, g2, g3, g4⟩ := k w0 R0 R1 a w h2;exact ⟨x, v, R2, g0, g1, g2, h1.trans g3, g4⟩
theorem BG5 {y : AV} (i j sz : Nat) {b : Nat} {t : TypeId} {cs : List AV} (hi : own[i]? = some (.box b t cs)) (hj : cs[j]? = some AV.nils)
    (k : J6 P (fun _ => False) n fn ⟨own.set i (.box b t (cs.set j (AV.list sz []))), env⟩ y) : J6 P (fun _ => False) n fn ⟨own, env⟩ y := fun w0 R0 R a w hs => by
  have hle : Le (fun _ => False) n ⟨own, env⟩ ⟨own.set i (.box b t (cs.set j (AV.list sz []))), env⟩ := Ap5 [] i (.box b t (cs.set j (AV.list sz []))) rfl hi ⟨rfl, rfl, BV5 j hj⟩ Ak5;obtain ⟨R1, h1, h2⟩ := hle w0 R0 R a w hs;obtain ⟨v, R2, h3, h4, h5, h6⟩ := k w0 R0 R1 a w h2;exact ⟨v, R2, h3, h4, h1.trans h5, h6⟩
end
section
variable {P : Program} {G : Nat → Prop} {n : Nat} {own : List Own} {o : Oper} {E : N1}
@[reducible] def byteC (b : UInt8) : List AV := [AV.ik .u8 b.toNat]
theorem Bn6 : ∀ (bs : List UInt8), (bs.map byteC).flatten = bs.map fun b => AV.ik .u8 b.toNat
  | [] => rfl
  | b :: bs => by rw [T3, AT1, Bn6 bs]; rfl
theorem Ck1 {w : World} {oa : Option Addr} {c : Nat} {bs : List UInt8} {src dst e : TypeId} (hs : P.underlying src = some (.slice e)) (he : P.underlying e = some (.int .u8)) (hdst : P.underlying dst = some .string)
    (h : bs ≠ [] → ∃ a, oa = some a ∧ ∀ (j : Nat) (b : UInt8), bs[j]? = some b → w.cell? (a.add j) = some (.int .u8 b.toNat)) :
    (convert src dst (.slice oa bs.length c)).run P w = .ok (.string ⟨bs.toArray⟩) w := by
  cases oa with
  | none =>
    have hb : bs = [] := by
      cases bs with
      | nil => rfl
      | cons b t => obtain ⟨a, ha, _⟩ := h Y2; cases ha
    subst hb;exact Go.run_convert_bytes_nil (w := w) (P := P) src e hs he _ _ dst hdst
  | some a =>
    have hl : (loadCells a bs.length).run P w = .ok ((bs.map fun b => (b.toNat : Int)).map (Value.int .u8)).toArray w := by
      have := run_loadCells_list (P := P) (w := w) a ((bs.map fun b => (b.toNat : Int)).map (Value.int .u8)) (fun j v hj => by
        rw [Y6, Y6] at hj
        cases hb : bs[j]? with
        | none => rw [hb] at hj; cases hj
        | some b =>
          rw [hb] at hj;injection hj with hj; subst hj
          obtain ⟨a', ha, hc⟩ := h (by intro hn; rw [hn] at hb; simp at hb);injection ha with ha; subst ha
          exact hc j b hb)
      simpa using this
    rw [Go.run_convert_bytes_string w src dst e _ _ c hs he hdst, Go.run_bytesToString w a bs.length c _ hl, Go.foldl_push_bytes];refine D7 (fun b => Result.ok (Value.string b) w) ?_;refine ByteArray.ext ?_;apply Array.toList_inj.1
    simp [ByteArray.empty, ByteArray.emptyWithCapacity];show [] ++ bs.map (fun b => UInt8.ofNat (Int.toNat (b.toNat : Int))) = bs
    rw [AF5];conv => rhs; rw [← List.map_id bs]
    refine List.map_congr_left fun b _ => ?_;rw [AC6];simp
theorem Cr6 {R : G4} {w : World} {v : Value} {bs : List UInt8} {src dst e : TypeId} (hr : RLe R w) (hd : (AV.list 1 (bs.map byteC)).den R v) (hs : P.underlying src = some (.slice e)) (he : P.underlying e = some (.int .u8)) (hdst : P.underlying dst = some .string) :
    (convert src dst v).run P w = .ok (.string ⟨bs.toArray⟩) w := by
  obtain ⟨oa, c, rfl, h1, h2, _, h4⟩ := hd;rw [A6];refine Ck1 hs he hdst fun hn => ?_;obtain ⟨a, ha, hc⟩ := h4 (by intro hm; exact hn (List.map_eq_nil_iff.1 hm));refine ⟨a, ha, fun j b hb => ?_⟩;rw [Bn6] at hc;obtain ⟨u, hu, hx, _⟩ := hc j (AV.ik .u8 b.toNat) (by rw [Y6, hb]; rfl);rw [Al8 hr hu];exact D7 some hx
theorem Cf6 {src dst e : TypeId} {p : Operand} {bs : List UInt8} (ho : o.op = .convert src dst p) (hs : P.underlying src = some (.slice e)) (he : P.underlying e = some (.int .u8)) (hd : P.underlying dst = some .string) (hp : Ev E p (AV.list 1 (bs.map byteC))) : OpW P G n own o E (AV.str bs) := N0 fun R a w hr hv => by
  have h1 := G0 hp M8 hv;exact ⟨.string ⟨bs.toArray⟩, by simp [execOp, ho, Cr6 hr h1 hs he hd], rfl⟩
end
end Go.AV
namespace Go.AV
open Go.Proofs
class UnC (t : Nat) (x : outParam (Option TypeDesc)) : Prop where
  h : Tryz.prog.underlying t = x
class SzC (t : Nat) (x : outParam Nat) : Prop where
  h : ∀ w, (sizeOf t).run Tryz.prog w = .ok x w
class AgC (t : Nat) (x : outParam Bool) : Prop where
  h : ∀ w, (isAgg t).run Tryz.prog w = .ok x w
class ZvC (t : Nat) (x : outParam Value) : Prop where
  h : ∀ w, (zeroValue t).run Tryz.prog w = .ok x w
class TyC (t : Nat) (x : outParam TypeInfo) : Prop where
  h : Tryz.prog.types[t]? = some x
class CaC (f : Nat) : Prop where
  h : ∀ (a : Array Value) (w : World), (callFunc f a).run Tryz.prog w = .ok (.enter f a) w
class PlC (t : Nat) (x : outParam (Array (Nat × Nat))) : Prop where
  h : ∃ fs, Tryz.prog.underlying t = some (.struct fs) ∧ ∀ w, (fs.mapM (m := Sem) fun f => do pure (f.offset, ← sizeOf f.type)).run Tryz.prog w = .ok x w
theorem plL {t : Nat} {x : Array (Nat × Nat)} [u : PlC t x] : ∃ fs, Tryz.prog.underlying t = some (.struct fs) ∧ ∀ w, (fs.mapM (m := Sem) fun f => do pure (f.offset, ← sizeOf f.type)).run Tryz.prog w = .ok x w := u.h
theorem unL {t : Nat} {x : Option TypeDesc} [u : UnC t x] : Tryz.prog.underlying t = x := u.h
theorem szL {t x : Nat} [u : SzC t x] : ∀ w, (sizeOf t).run Tryz.prog w = .ok x w := u.h
theorem agL {t : Nat} {x : Bool} [u : AgC t x] : ∀ w, (isAgg t).run Tryz.prog w = .ok x w := u.h
theorem zvL {t : Nat} {x : Value} [u : ZvC t x] : ∀ w, (zeroValue t).run Tryz.prog w = .ok x w := u.h
instance iS101 : SzC 101 1 := ⟨Tryz.sizeOf101⟩
instance iU9 : UnC 9 (some Tryz.t9.desc) := ⟨M2⟩
instance iS137 : SzC 137 3 := ⟨U6⟩
instance iA101 : AgC 101 false := ⟨Tryz.isAgg101⟩
instance iU129 : UnC 129 (some Tryz.t129.desc) := ⟨Tryz.underlying129⟩
instance iA5 : AgC 5 false := ⟨Tryz.isAgg5⟩
instance iS257 : SzC 257 3 := ⟨AC4⟩
instance iA51 : AgC 51 true := ⟨Tryz.isAgg51⟩
instance iZ172 : ZvC 172 (Value.agg #[Value.int IntKind.i64 0, F9, F9, F9]) := ⟨Tryz.zeroValue172⟩
instance iU97 : UnC 97 (some Tryz.t97.desc) := ⟨X6⟩
instance iS141 : SzC 141 6 := ⟨Tryz.sizeOf141⟩
instance iS163 : SzC 163 3 := ⟨o0⟩
instance iA141 : AgC 141 true := ⟨Tryz.isAgg141⟩
instance iU205 : UnC 205 (some Tryz.t204.desc) := ⟨y7⟩
instance iA24 : AgC 24 false := ⟨Tryz.isAgg24⟩
instance iS225 : SzC 225 8 := ⟨Y0⟩
instance iU145 : UnC 145 (some Tryz.t144.desc) := ⟨Tryz.underlying145⟩
instance iU98 : UnC 98 (some Tryz.t98.desc) := ⟨G9⟩
instance iZ220 : ZvC 220 (Value.agg #[Value.int IntKind.i64 0, Value.int IntKind.i64 0, Value.int IntKind.i64 0, Value.int IntKind.i64 0, F9, F9, Value.bool false]) := ⟨Tryz.zeroValue220⟩
instance iZ225 : ZvC 225 (Value.agg #[Value.int IntKind.i64 0, Value.int IntKind.i64 0, Value.int IntKind.i64 0, Value.int IntKind.i64 0, Value.int IntKind.i64 0, F9, F9, Value.bool false]) := ⟨Tryz.zeroValue225⟩
instance iU51 : UnC 51 (some Tryz.t50.desc) := ⟨i8⟩
instance iS22 : SzC 22 1 := ⟨Tryz.sizeOf22⟩
instance iA166 : AgC 166 false := ⟨Tryz.isAgg166⟩
instance iS69 : SzC 69 3 := ⟨F2⟩
instance iZ132 : ZvC 132 (Value.agg #[F9, F9, F9, Value.int IntKind.i64 0, Value.int IntKind.i64 0, Value.bool false, Value.int IntKind.i64 0, Value.bool false, Value.bool false, Value.bool false]) := ⟨Tryz.zeroValue132⟩
instance iU62 : UnC 62 (some Tryz.t61.desc) := ⟨Tryz.underlying62⟩
instance iA133 : AgC 133 false := ⟨Tryz.isAgg133⟩
instance iS172 : SzC 172 4 := ⟨T0⟩
instance iS99 : SzC 99 1 := ⟨Tryz.sizeOf99⟩
instance iU170 : UnC 170 (some Tryz.t170.desc) := ⟨K9⟩
instance iA172 : AgC 172 true := ⟨Y4⟩
instance iZ5 : ZvC 5 (Value.int IntKind.u8 0) := ⟨Tryz.zeroValue5⟩
instance iU132 : UnC 132 (some Tryz.t131.desc) := ⟨I8⟩
instance iZ3 : ZvC 3 (Value.int IntKind.i64 0) := ⟨Tryz.zeroValue3⟩
instance iU225 : UnC 225 (some Tryz.t224.desc) := ⟨Tryz.underlying225⟩
instance iZ257 : ZvC 257 (Value.agg #[Value.int IntKind.i64 0, Value.string (ByteArray.mk #[]), Value.bool false]) := ⟨Tryz.zeroValue257⟩
instance iU257 : UnC 257 (some Tryz.t256.desc) := ⟨Tryz.underlying257⟩
instance iA168 : AgC 168 true := ⟨M3⟩
instance iU163 : UnC 163 (some Tryz.t162.desc) := ⟨Tryz.underlying163⟩
instance iA163 : AgC 163 true := ⟨AB7⟩
instance iS279 : SzC 279 3 := ⟨AH8⟩
instance iS169 : SzC 169 1 := ⟨Tryz.sizeOf169⟩
instance iA253 : AgC 253 true := ⟨Tryz.isAgg253⟩
instance iS5 : SzC 5 1 := ⟨Tryz.sizeOf5⟩
instance iS80 : SzC 80 3 := ⟨U3⟩
instance iU220 : UnC 220 (some Tryz.t219.desc) := ⟨Tryz.underlying220⟩
instance iZ163 : ZvC 163 (Value.agg #[Value.int IntKind.i64 0, Value.int IntKind.i64 0, Value.int IntKind.i64 0]) := ⟨Tryz.zeroValue163⟩
instance iS170 : SzC 170 1 := ⟨Tryz.sizeOf170⟩
instance iA104 : AgC 104 true := ⟨j0⟩
instance iU157 : UnC 157 (some Tryz.t157.desc) := ⟨AH4⟩
instance iU253 : UnC 253 (some Tryz.t252.desc) := ⟨Tryz.underlying253⟩
instance iZ109 : ZvC 109 (F9) := ⟨Tryz.zeroValue109⟩
instance iA69 : AgC 69 true := ⟨Tryz.isAgg69⟩
instance iA260 : AgC 260 false := ⟨Tryz.isAgg260⟩
instance iS166 : SzC 166 1 := ⟨AP9⟩
instance iU203 : UnC 203 (some Tryz.t203.desc) := ⟨Q0⟩
instance iS102 : SzC 102 1 := ⟨Tryz.sizeOf102⟩
instance iA279 : AgC 279 true := ⟨Tryz.isAgg279⟩
instance iA102 : AgC 102 false := ⟨Tryz.isAgg102⟩
instance iZ141 : ZvC 141 (Value.agg #[Value.int IntKind.i64 0, F9, F9, Value.int IntKind.i64 0, Value.int IntKind.i64 0, Value.int IntKind.i64 0]) := ⟨Tryz.zeroValue141⟩
instance iZ9 : ZvC 9 (Value.string (ByteArray.mk #[])) := ⟨Tryz.zeroValue9⟩
instance iU22 : UnC 22 (some Tryz.t22.desc) := ⟨AB8⟩
instance iA22 : AgC 22 false := ⟨Tryz.isAgg22⟩
instance iZ279 : ZvC 279 (Value.agg #[Value.string (ByteArray.mk #[]), Value.int IntKind.i64 0, Value.bool false]) := ⟨Tryz.zeroValue279⟩
instance iS203 : SzC 203 1 := ⟨Tryz.sizeOf203⟩
instance iU141 : UnC 141 (some Tryz.t140.desc) := ⟨N2⟩
instance iA200 : AgC 200 false := ⟨Tryz.isAgg200⟩
instance iS262 : SzC 262 2 := ⟨T4⟩
instance iA80 : AgC 80 true := ⟨AZ1⟩
instance iA60 : AgC 60 false := ⟨Tryz.isAgg60⟩
instance iU24 : UnC 24 (some Tryz.t24.desc) := ⟨G2⟩
instance iA145 : AgC 145 true := ⟨AB9⟩
instance iA97 : AgC 97 false := ⟨Tryz.isAgg97⟩
instance iA32 : AgC 32 false := ⟨Tryz.isAgg32⟩
instance iA45 : AgC 45 true := ⟨Tryz.isAgg45⟩
instance iS3 : SzC 3 1 := ⟨D0⟩
instance iZ4 : ZvC 4 (Value.bool false) := ⟨Tryz.zeroValue4⟩
instance iS100 : SzC 100 1 := ⟨Tryz.sizeOf100⟩
instance iA109 : AgC 109 false := ⟨Tryz.isAgg109⟩
instance iS104 : SzC 104 9 := ⟨Q5⟩
instance iS145 : SzC 145 4 := ⟨W8⟩
instance iZ145 : ZvC 145 (Value.agg #[Value.int IntKind.i64 0, Value.string (ByteArray.mk #[]), Value.string (ByteArray.mk #[]), Value.int IntKind.i64 0]) := ⟨Tryz.zeroValue145⟩
instance iA262 : AgC 262 true := ⟨Tryz.isAgg262⟩
instance iS4 : SzC 4 1 := ⟨S0⟩
instance iZ205 : ZvC 205 (Value.agg #[Value.bool false, F9, Value.int IntKind.i64 0]) := ⟨Tryz.zeroValue205⟩
instance iA205 : AgC 205 true := ⟨Tryz.isAgg205⟩
instance iZ168 : ZvC 168 (Value.agg #[F9, Value.int IntKind.i64 0, Value.int IntKind.i64 0]) := ⟨Tryz.zeroValue168⟩
instance iZ104 : ZvC 104 (Value.agg #[Value.int IntKind.i64 0, Value.int IntKind.i64 0, F9, F9, F9, F9, F9, F9, F9]) := ⟨Tryz.zeroValue104⟩
instance iU133 : UnC 133 (some Tryz.t133.desc) := ⟨N3⟩
instance iA220 : AgC 220 true := ⟨Tryz.isAgg220⟩
instance iU260 : UnC 260 (some Tryz.t260.desc) := ⟨Z5⟩
instance iS133 : SzC 133 1 := ⟨Tryz.sizeOf133⟩
instance iA99 : AgC 99 false := ⟨Tryz.isAgg99⟩
instance iU100 : UnC 100 (some Tryz.t100.desc) := ⟨U8⟩
instance iU158 : UnC 158 (some Tryz.t158.desc) := ⟨Tryz.underlying158⟩
instance iU69 : UnC 69 (some Tryz.t68.desc) := ⟨Tryz.underlying69⟩
instance iA203 : AgC 203 false := ⟨Tryz.isAgg203⟩
instance iU200 : UnC 200 (some Tryz.t200.desc) := ⟨Z6⟩
instance iS9 : SzC 9 1 := ⟨M4⟩
instance iS253 : SzC 253 5 := ⟨S3⟩
instance iA49 : AgC 49 false := ⟨w7⟩
instance iU235 : UnC 235 (some Tryz.t234.desc) := ⟨Tryz.underlying235⟩
instance iA170 : AgC 170 false := ⟨Tryz.isAgg170⟩
instance iZ51 : ZvC 51 (Value.agg #[Value.int IntKind.i64 0, Value.int IntKind.i64 0, Value.int IntKind.i64 0, Value.bool false, Value.bool false, Value.int IntKind.i64 0, F9, F9]) := ⟨Tryz.zeroValue51⟩
instance iZ196 : ZvC 196 (Value.agg #[Value.int IntKind.i64 0, Value.int IntKind.i64 0, F9, F9, F9, F9, F9, F9, F9]) := ⟨Tryz.zeroValue196⟩
instance iU217 : UnC 217 (some Tryz.t216.desc) := ⟨Tryz.underlying217⟩
instance iU127 : UnC 127 (some Tryz.t127.desc) := ⟨Tryz.underlying127⟩
instance iZ80 : ZvC 80 (Value.agg #[Value.string (ByteArray.mk #[]), Value.string (ByteArray.mk #[]), Value.bool false]) := ⟨Tryz.zeroValue80⟩
instance iU104 : UnC 104 (some Tryz.t103.desc) := ⟨Y1⟩
instance iA4 : AgC 4 false := ⟨AA3⟩
instance iU137 : UnC 137 (some Tryz.t136.desc) := ⟨Tryz.underlying137⟩
instance iS98 : SzC 98 1 := ⟨AD9⟩
instance iS60 : SzC 60 1 := ⟨Tryz.sizeOf60⟩
instance iS49 : SzC 49 1 := ⟨Q6⟩
instance iU109 : UnC 109 (some Tryz.t109.desc) := ⟨T5⟩
instance iA26 : AgC 26 false := ⟨Tryz.isAgg26⟩
instance iZ253 : ZvC 253 (Value.agg #[Value.int IntKind.i64 0, Value.int IntKind.i64 0, Value.int IntKind.i64 0, F9, F9]) := ⟨Tryz.zeroValue253⟩
instance iA169 : AgC 169 false := ⟨Tryz.isAgg169⟩
instance iU262 : UnC 262 (some Tryz.t261.desc) := ⟨n9⟩
instance iU32 : UnC 32 (some Tryz.t32.desc) := ⟨C0⟩
instance iU80 : UnC 80 (some Tryz.t79.desc) := ⟨AI6⟩
instance iS51 : SzC 51 8 := ⟨L3⟩
instance iS132 : SzC 132 10 := ⟨S4⟩
instance iS97 : SzC 97 1 := ⟨Tryz.sizeOf97⟩
instance iU168 : UnC 168 (some Tryz.t167.desc) := ⟨U9⟩
instance iU124 : UnC 124 (some Tryz.t124.desc) := ⟨Tryz.underlying124⟩
instance iA43 : AgC 43 false := ⟨Tryz.isAgg43⟩
instance iS24 : SzC 24 1 := ⟨Tryz.sizeOf24⟩
instance iZ235 : ZvC 235 (Value.agg #[Value.int IntKind.i64 0]) := ⟨Tryz.zeroValue235⟩
instance iU102 : UnC 102 (some Tryz.t102.desc) := ⟨AH5⟩
instance iS43 : SzC 43 1 := ⟨Tryz.sizeOf43⟩
instance iA132 : AgC 132 true := ⟨Tryz.isAgg132⟩
instance iA225 : AgC 225 true := ⟨Tryz.isAgg225⟩
instance iA137 : AgC 137 true := ⟨Tryz.isAgg137⟩
instance iU169 : UnC 169 (some Tryz.t169.desc) := ⟨I9⟩
instance iA257 : AgC 257 true := ⟨Tryz.isAgg257⟩
instance iZ262 : ZvC 262 (Value.agg #[Value.string (ByteArray.mk #[]), F9]) := ⟨Tryz.zeroValue262⟩
instance iU279 : UnC 279 (some Tryz.t278.desc) := ⟨Tryz.underlying279⟩
instance iA98 : AgC 98 false := ⟨Tryz.isAgg98⟩
instance iS220 : SzC 220 7 := ⟨Tryz.sizeOf220⟩
instance iU26 : UnC 26 (some Tryz.t26.desc) := ⟨C9⟩
instance iZ217 : ZvC 217 (Value.agg #[Value.int IntKind.i64 0, Value.int IntKind.i64 0]) := ⟨Tryz.zeroValue217⟩
instance iU99 : UnC 99 (some Tryz.t99.desc) := ⟨I0⟩
instance iS205 : SzC 205 3 := ⟨K4⟩
instance iZ137 : ZvC 137 (Value.agg #[Value.int IntKind.i64 0, Value.bool false, Value.int IntKind.i64 0]) := ⟨Tryz.zeroValue137⟩
instance iS200 : SzC 200 1 := ⟨u7⟩
instance iU223 : UnC 223 (some Tryz.t223.desc) := ⟨Tryz.underlying223⟩
instance iU49 : UnC 49 (some Tryz.t49.desc) := ⟨M9⟩
instance iU101 : UnC 101 (some Tryz.t101.desc) := ⟨M5⟩
instance iA9 : AgC 9 false := ⟨AA4⟩
instance iZ69 : ZvC 69 (Value.agg #[Value.string (ByteArray.mk #[]), Value.string (ByteArray.mk #[]), Value.bool false]) := ⟨Tryz.zeroValue69⟩
instance iS26 : SzC 26 1 := ⟨Tryz.sizeOf26⟩
instance iS45 : SzC 45 3 := ⟨Tryz.sizeOf45⟩
instance iZ98 : ZvC 98 (F9) := ⟨Tryz.zeroValue98⟩
instance iS168 : SzC 168 3 := ⟨D3⟩
instance iS260 : SzC 260 1 := ⟨Tryz.sizeOf260⟩
instance iS217 : SzC 217 2 := ⟨Tryz.sizeOf217⟩
instance iS109 : SzC 109 1 := ⟨Tryz.sizeOf109⟩
instance iA100 : AgC 100 false := ⟨Tryz.isAgg100⟩
instance iU45 : UnC 45 (some Tryz.t44.desc) := ⟨Tryz.underlying45⟩
instance iU196 : UnC 196 (some Tryz.t195.desc) := ⟨Tryz.underlying196⟩
instance iS32 : SzC 32 1 := ⟨Tryz.sizeOf32⟩
instance iZ62 : ZvC 62 (Value.agg #[F9, Value.int IntKind.i64 0, Value.int IntKind.u64 0]) := ⟨Tryz.zeroValue62⟩
instance iA3 : AgC 3 false := ⟨P4⟩
instance iU172 : UnC 172 (some Tryz.t171.desc) := ⟨AD3⟩
instance iU166 : UnC 166 (some Tryz.t166.desc) := ⟨G1⟩
instance iZ200 : ZvC 200 (F9) := ⟨Tryz.zeroValue200⟩
instance iP51 : PlC 51 #[(0, 1), (1, 1), (2, 1), (3, 1), (4, 1), (5, 1), (6, 1), (7, 1)] := ⟨_, i8, fun w => by kernel_rfl⟩
instance iP62 : PlC 62 #[(0, 1), (1, 1), (2, 1)] := ⟨_, Tryz.underlying62, fun w => by kernel_rfl⟩
instance iP69 : PlC 69 #[(0, 1), (1, 1), (2, 1)] := ⟨_, Tryz.underlying69, fun w => by kernel_rfl⟩
instance iP80 : PlC 80 #[(0, 1), (1, 1), (2, 1)] := ⟨_, AI6, fun w => by kernel_rfl⟩
instance iP104 : PlC 104 #[(0, 1), (1, 1), (2, 1), (3, 1), (4, 1), (5, 1), (6, 1), (7, 1), (8, 1)] := ⟨_, Y1, fun w => by kernel_rfl⟩
instance iP137 : PlC 137 #[(0, 1), (1, 1), (2, 1)] := ⟨_, Tryz.underlying137, fun w => by kernel_rfl⟩
instance iP141 : PlC 141 #[(0, 1), (1, 1), (2, 1), (3, 1), (4, 1), (5, 1)] := ⟨_, N2, fun w => by kernel_rfl⟩
instance iP145 : PlC 145 #[(0, 1), (1, 1), (2, 1), (3, 1)] := ⟨_, Tryz.underlying145, fun w => by kernel_rfl⟩
instance iP163 : PlC 163 #[(0, 1), (1, 1), (2, 1)] := ⟨_, Tryz.underlying163, fun w => by kernel_rfl⟩
instance iP168 : PlC 168 #[(0, 1), (1, 1), (2, 1)] := ⟨_, U9, fun w => by kernel_rfl⟩
instance iP196 : PlC 196 #[(0, 9)] := ⟨_, Tryz.underlying196, fun w => by kernel_rfl⟩
instance iP205 : PlC 205 #[(0, 1), (1, 1), (2, 1)] := ⟨_, y7, fun w => by kernel_rfl⟩
instance iP217 : PlC 217 #[(0, 1), (1, 1)] := ⟨_, Tryz.underlying217, fun w => by kernel_rfl⟩
instance iP220 : PlC 220 #[(0, 1), (1, 1), (2, 1), (3, 1), (4, 1), (5, 1), (6, 1)] := ⟨_, Tryz.underlying220, fun w => by kernel_rfl⟩
instance iP225 : PlC 225 #[(0, 1), (1, 7)] := ⟨_, Tryz.underlying225, fun w => by kernel_rfl⟩
instance iP235 : PlC 235 #[(0, 1)] := ⟨_, Tryz.underlying235, fun w => by kernel_rfl⟩
instance iP253 : PlC 253 #[(0, 1), (1, 1), (2, 1), (3, 1), (4, 1)] := ⟨_, Tryz.underlying253, fun w => by kernel_rfl⟩
instance iP257 : PlC 257 #[(0, 1), (1, 1), (2, 1)] := ⟨_, Tryz.underlying257, fun w => by kernel_rfl⟩
instance iP279 : PlC 279 #[(0, 1), (1, 1), (2, 1)] := ⟨_, Tryz.underlying279, fun w => by kernel_rfl⟩
theorem omA {p : Prop} (h : p := by first | omega | ((try simp only [lenZs, S2, szR] at *); omega) | (have hc2 := hc; simp only [bolZs, e8, Bd4, A6, I5] at hc2; omega)) : p := h
theorem fsl {fs : Array Field} {k : Nat} {fd : Field} (h : fs.toList[k]? = some fd) : fs[k]? = some fd := by rw [← h]; simp
section
variable {P : Program} {G : Nat → Prop} {n : Nat}
theorem w_fldB2 {own : List Own} {o : Oper} {E : N1} {t : TypeId} {p : Operand} {b off : Nat} {fs : Array Field} {fd : Field} {k j : Nat} (m : Nat) (ho : o.op = .fieldAddr t p k) (ht : P.underlying t = some (.struct fs)) (hk : fs.toList[k]? = some fd) (hs : ∀ w, (sizeOf fd.type).run P w = .ok (j + 1) w)
    (hp : Ev E p (AV.ptr b off)) (hm : off + fd.offset = m) : OpW P G n own o E (AV.ptr b m) := BI9 m ho ht (fsl hk) hs hp hm
theorem w_fldE2 {own : List Own} {o : Oper} {E : N1} {t : TypeId} {p : Operand} {fs : Array Field} {fd : Field} {k m : Nat} {xs ys : List AV} (ho : o.op = .fieldAddr t p k) (ht : P.underlying t = some (.struct fs)) (hk : fs.toList[k]? = some fd) (hs : ∀ w, (sizeOf fd.type).run P w = .ok (m + 1) w)
    (hp : Ev E p (AV.eptr xs)) (hy : xs.drop fd.offset = ys) : OpW P G n own o E (AV.eptr ys) := w_fldE ho ht (fsl hk) hs hp hy
theorem w_build2 {own : List Own} {o : Oper} {E : N1} {t : TypeId} {z : Value} {ps : Array (Nat × Operand)} {asl : List (Nat × List AV)} {places : Array (Nat × Nat)} {cs : List AV} (ho : o.op = .build t ps) (hz : ∀ w, (zeroValue t).run P w = .ok z w)
    (hpl : ∃ fs, P.underlying t = some (.struct fs) ∧ ∀ w, (fs.mapM (m := Sem) fun f => do pure (f.offset, ← sizeOf f.type)).run P w = .ok places w) (h1' : z.cells.toList.all Value.oneCell' = true) (hp : EvP E ps.toList asl) (hc : AX5 (places[·]?) (z.cells.toList.map n4) asl = some cs) :
    OpW P G n own o E (AV.agg cs) := by
  obtain ⟨fs, h1, h2⟩ := hpl;exact j6 ho h1 hz h2 h1' hp hc
theorem gSq {B : Prop} {ops : Array Oper} {l : List Oper} {s : G5} {K : G5 → Prop} (h : B → O9 P G n ops l s K) : B → O9 P G n ops l s K := h
theorem gCh {B : Prop} {own : List Own} {ops : Array Oper} {l : List Oper} {e : List (Nat × AV)} {K : List (Nat × AV) → Prop} (h : B → AY2 P G n own ops l e K) : B → AY2 P G n own ops l e K := h
theorem gBc {B : Prop} {I : List Own → Prop} {ops : Array Oper} {l : List (Nat × Bool)} {e : List (Nat × AV)} {W : List Own} {K : List (Nat × AV) → List Own → Prop} (h : B → BCh P G n I ops l e W K) : B → BCh P G n I ops l e W K := h
theorem gBt {B : Prop} {I : List Own → Prop} {ops : Array Oper} {l : OT} {e : List (Nat × AV)} {W : List Own} {K : List (Nat × AV) → List Own → Prop} (h : B → BT P G n I ops l e W K) : B → BT P G n I ops l e W K := h
theorem gB3 {B : Prop} {I : List Own → Prop} {ops : Array Oper} {l : OT3} {e : List (Nat × AV)} {W : List Own} {K : List (Nat × AV) → List Own → Prop} (h : B → BT3 P G n I ops l e W K) : B → BT3 P G n I ops l e W K := h
end
theorem ix0 {α : Type} {l : List α} {x : α} (h : l[0]? = some x) : l[0]? = some x := h
theorem ix1 {α : Type} {l : List α} {x : α} (h : l[1]? = some x) : l[1]? = some x := h
theorem ix2 {α : Type} {l : List α} {x : α} (h : l[2]? = some x) : l[2]? = some x := h
theorem ix3 {α : Type} {l : List α} {x : α} (h : l[3]? = some x) : l[3]? = some x := h
theorem ix4 {α : Type} {l : List α} {x : α} (h : l[4]? = some x) : l[4]? = some x := h
theorem ix5 {α : Type} {l : List α} {x : α} (h : l[5]? = some x) : l[5]? = some x := h
theorem ix6 {α : Type} {l : List α} {x : α} (h : l[6]? = some x) : l[6]? = some x := h
theorem ix7 {α : Type} {l : List α} {x : α} (h : l[7]? = some x) : l[7]? = some x := h
theorem ix8 {α : Type} {l : List α} {x : α} (h : l[8]? = some x) : l[8]? = some x := h
theorem ix9 {α : Type} {l : List α} {x : α} (h : l[9]? = some x) : l[9]? = some x := h
theorem ix10 {α : Type} {l : List α} {x : α} (h : l[10]? = some x) : l[10]? = some x := h
theorem ix11 {α : Type} {l : List α} {x : α} (h : l[11]? = some x) : l[11]? = some x := h
theorem ix12 {α : Type} {l : List α} {x : α} (h : l[12]? = some x) : l[12]? = some x := h
theorem ix13 {α : Type} {l : List α} {x : α} (h : l[13]? = some x) : l[13]? = some x := h
theorem ix14 {α : Type} {l : List α} {x : α} (h : l[14]? = some x) : l[14]? = some x := h
theorem ix15 {α : Type} {l : List α} {x : α} (h : l[15]? = some x) : l[15]? = some x := h
theorem ixA {p : Prop} (h : p := by 
  first
  | (apply ix0; apply Eq.refl)
  | (apply ix1; apply Eq.refl)
  | (apply ix2; apply Eq.refl)
  | (apply ix3; apply Eq.refl)
  | (apply ix4; apply Eq.refl)
  | (apply ix5; apply Eq.refl)
  | (apply ix6; apply Eq.refl)
  | (apply ix7; apply Eq.refl)
  | (apply ix8; apply Eq.refl)
  | (apply ix9; apply Eq.refl)
  | (apply ix10; apply Eq.refl)
  | (apply ix11; apply Eq.refl)
  | (apply ix12; apply Eq.refl)
  | (apply ix13; apply Eq.refl)
  | (apply ix14; apply Eq.refl)
  | (apply ix15; apply Eq.refl)) : p := h
theorem evA {p : Prop} (h : p := by 
  first
  | (apply A8; apply Eq.refl; exact hc)
  | (apply A8; apply Eq.refl; exact (and_l hc))
  | (apply A0; apply Eq.refl)
  | apply I7
  | apply AV9) : p := h
theorem eiA {p : Prop} (h : p := by 
  first
  | (apply evif_w; apply Eq.refl)
  | (apply evif_w2; apply Eq.refl; exact hc)
  | (apply evif; exact evA)) : p := h
theorem asA {p : Prop} (h : p := by 
  first
  | apply m3
  | apply Z2
  | apply AT6
  | apply a8
  | apply n1) : p := h
theorem bpA {p : Prop} (h : p := by (repeat (apply E1; exact evA; exact asA)); apply X0) : p := h
theorem gdA {p : Prop} (h : p := by 
  first
  | (apply P8; apply Eq.refl; apply Eq.refl; apply Eq.refl)
  | (apply j5; apply Eq.refl; apply Eq.refl; apply Eq.refl)
  | (apply i7; apply Eq.refl; apply Eq.refl; apply Eq.refl)
  | (apply BM4; apply Eq.refl; apply Eq.refl; apply Eq.refl)) : p := h
theorem nm0 {x : Nat} (h : x = 0) : x = 0 := h
theorem nm1 {x : Nat} (h : x = 1) : x = 1 := h
theorem nm2 {x : Nat} (h : x = 2) : x = 2 := h
theorem nm3 {x : Nat} (h : x = 3) : x = 3 := h
theorem nm4 {x : Nat} (h : x = 4) : x = 4 := h
theorem nm5 {x : Nat} (h : x = 5) : x = 5 := h
theorem nm6 {x : Nat} (h : x = 6) : x = 6 := h
theorem nm7 {x : Nat} (h : x = 7) : x = 7 := h
theorem nm8 {x : Nat} (h : x = 8) : x = 8 := h
theorem nm9 {x : Nat} (h : x = 9) : x = 9 := h
theorem nm10 {x : Nat} (h : x = 10) : x = 10 := h
theorem nm11 {x : Nat} (h : x = 11) : x = 11 := h
theorem nm12 {x : Nat} (h : x = 12) : x = 12 := h
theorem nm13 {x : Nat} (h : x = 13) : x = 13 := h
theorem nm14 {x : Nat} (h : x = 14) : x = 14 := h
theorem nm15 {x : Nat} (h : x = 15) : x = 15 := h
theorem nm16 {x : Nat} (h : x = 16) : x = 16 := h
theorem nm17 {x : Nat} (h : x = 17) : x = 17 := h
theorem nm18 {x : Nat} (h : x = 18) : x = 18 := h
theorem nm19 {x : Nat} (h : x = 19) : x = 19 := h
theorem nm20 {x : Nat} (h : x = 20) : x = 20 := h
theorem nm21 {x : Nat} (h : x = 21) : x = 21 := h
theorem nm22 {x : Nat} (h : x = 22) : x = 22 := h
theorem nm23 {x : Nat} (h : x = 23) : x = 23 := h
theorem nm24 {x : Nat} (h : x = 24) : x = 24 := h
theorem nm25 {x : Nat} (h : x = 25) : x = 25 := h
theorem nm26 {x : Nat} (h : x = 26) : x = 26 := h
theorem nm27 {x : Nat} (h : x = 27) : x = 27 := h
theorem nm28 {x : Nat} (h : x = 28) : x = 28 := h
theorem nm29 {x : Nat} (h : x = 29) : x = 29 := h
theorem nm30 {x : Nat} (h : x = 30) : x = 30 := h
theorem nm31 {x : Nat} (h : x = 31) : x = 31 := h
theorem nm32 {x : Nat} (h : x = 32) : x = 32 := h
theorem nmA {p : Prop} (h : p := by 
  first
  | (apply nm0; apply Eq.refl)
  | (apply nm1; apply Eq.refl)
  | (apply nm2; apply Eq.refl)
  | (apply nm3; apply Eq.refl)
  | (apply nm4; apply Eq.refl)
  | (apply nm5; apply Eq.refl)
  | (apply nm6; apply Eq.refl)
  | (apply nm7; apply Eq.refl)
  | (apply nm8; apply Eq.refl)
  | (apply nm9; apply Eq.refl)
  | (apply nm10; apply Eq.refl)
  | (apply nm11; apply Eq.refl)
  | (apply nm12; apply Eq.refl)
  | (apply nm13; apply Eq.refl)
  | (apply nm14; apply Eq.refl)
  | (apply nm15; apply Eq.refl)
  | (apply nm16; apply Eq.refl)
  | (apply nm17; apply Eq.refl)
  | (apply nm18; apply Eq.refl)
  | (apply nm19; apply Eq.refl)
  | (apply nm20; apply Eq.refl)
  | (apply nm21; apply Eq.refl)
  | (apply nm22; apply Eq.refl)
  | (apply nm23; apply Eq.refl)
  | (apply nm24; apply Eq.refl)
  | (apply nm25; apply Eq.refl)
  | (apply nm26; apply Eq.refl)
  | (apply nm27; apply Eq.refl)
  | (apply nm28; apply Eq.refl)
  | (apply nm29; apply Eq.refl)
  | (apply nm30; apply Eq.refl)
  | (apply nm31; apply Eq.refl)
  | (apply nm32; apply Eq.refl)) : p := h
theorem vA {p : Prop} (h : p := by 
  first
  | (apply w_move; apply Eq.refl; exact evA)
  | (apply D8; apply Eq.refl; exact evA)
  | (apply w_fldB2; apply Eq.refl; exact unL; apply Eq.refl; exact szL; exact evA; exact nmA)
  | (apply Az9; apply Eq.refl; exact evA; exact ixA; exact agL; apply Eq.refl)
  | (apply Ce6; apply Eq.refl; exact evA; exact ixA; exact agL; exact szL; apply Eq.refl)
  | (apply w_llen; apply Eq.refl; exact unL; exact evA)
  | (apply Cq8; apply Eq.refl; exact evA; apply Eq.refl)
  | (apply w_not; apply Eq.refl; exact evA)
  | (apply w_loadE1; apply Eq.refl; exact evA; exact agL; apply Eq.refl)
  | (apply w_loadE; apply Eq.refl; exact evA; exact agL; exact szL)
  | (apply w_fldE2; apply Eq.refl; exact unL; apply Eq.refl; exact szL; exact evA; apply Eq.refl)
  | (apply w_nilB; apply Eq.refl; exact evA)
  | (apply Bm4; apply Eq.refl; exact evA; exact eiA)
  | (apply w_or; apply Eq.refl; exact evA; exact eiA)
  | (apply w_lss; apply Eq.refl; exact evA; exact evA)
  | (apply w_eql; apply Eq.refl; exact evA; exact evA)
  | (apply BI5; apply Eq.refl; exact evA; exact evA; exact omA)
  | (apply w_subi; apply Eq.refl; exact evA; exact evA; exact omA)
  | (apply w_gtr; apply Eq.refl; exact evA; exact evA)
  | (apply w_leq; apply Eq.refl; exact evA; exact evA)
  | (apply w_geq; apply Eq.refl; exact evA; exact evA)
  | (apply w_neq; apply Eq.refl; exact evA; exact evA)
  | (apply Af6; apply Eq.refl; exact evA; exact evA)
  | (apply CO2; apply Eq.refl; exact evA; exact evA)
  | (apply w_alen; apply Eq.refl; exact unL; exact evA; exact ixA)
  | (apply w_slen; apply Eq.refl; exact unL; exact evA)
  | (apply w_build2; apply Eq.refl; exact zvL; exact plL; apply Eq.refl; exact bpA; apply Eq.refl)
  | (apply Ai4; apply Eq.refl; exact unL; exact szL; exact zvL; apply Eq.refl; apply Eq.refl; apply Eq.refl; apply Eq.refl; exact bpA; apply Eq.refl; apply Eq.refl)) : p := h
theorem s1 {A B : Prop} (h : B → A := by
 first
 | ((with_reducible apply gSq); first | (apply BM5; apply Eq.refl; apply Eq.refl; apply Eq.refl; exact vA) | apply sq_nil | (apply AE8; apply Eq.refl; apply Eq.refl; exact gdA; exact (fun hc => vA)) | (apply Cj5; apply Eq.refl; apply Eq.refl; apply Eq.refl; exact evA; exact evA; exact asA; exact ixA; exact szL; apply Eq.refl) | (apply T2; apply Eq.refl; apply Eq.refl; apply Eq.refl; exact evA; exact evA; exact asA; exact ixA; exact szL; apply Eq.refl) | (apply sq_alloc; apply Eq.refl; apply Eq.refl; apply Eq.refl; apply Eq.refl; exact zvL; apply Eq.refl) | (apply sq_box; apply Eq.refl; apply Eq.refl; apply Eq.refl; apply Eq.refl; exact evA))
 | ((with_reducible apply gCh); first | (apply C1; apply Eq.refl; apply Eq.refl; exact vA) | apply ch_nil | (apply O6; apply Eq.refl; exact gdA; exact (fun hc => vA)))
 | ((with_reducible apply gBc); first | (apply P1; apply Eq.refl; apply Eq.refl; apply Eq.refl; exact (fun ext => vA)) | apply bc_nil)
 | ((with_reducible apply gBt); first | (apply N5; apply Eq.refl; apply Eq.refl; apply Eq.refl; exact (fun ext => vA)) | apply bt_nil | apply bt_e1)
 | ((with_reducible apply gB3); first | (apply AQ9; apply Eq.refl; apply Eq.refl; apply Eq.refl; exact (fun ext => vA)) | apply bt3_nil | apply bt3_e1)
 | apply awp_seq
 | apply Cj0
 | apply Cq7
 | apply awp_skip
 | apply awp_ret
 | apply awp_exit
 | (apply Bw1; kernel_rfl; kernel_rfl; apply Eq.refl)) : B → A := h
theorem s2 {A B C : Prop} (g : B → A) (f : C → B) : C → A := fun c => g (f c)
theorem t1 {A B : Prop} (h : B → A := by exact s1) : B → A := h
theorem t2 {A B : Prop} (h : B → A := by exact s2 t1 t1) : B → A := h
theorem t4 {A B : Prop} (h : B → A := by exact s2 t2 t2) : B → A := h
theorem t8 {A B : Prop} (h : B → A := by exact s2 t4 t4) : B → A := h
theorem t16 {A B : Prop} (h : B → A := by exact s2 t8 t8) : B → A := h
theorem t32 {A B : Prop} (h : B → A := by exact s2 t16 t16) : B → A := h
theorem R1 {A B : Prop} (k : B) (h : B → A := by exact t1) : A := h k
theorem R2 {A B : Prop} (k : B) (h : B → A := by exact t2) : A := h k
theorem R3 {A B : Prop} (k : B) (h : B → A := by exact s2 t2 t1) : A := h k
theorem R4 {A B : Prop} (k : B) (h : B → A := by exact t4) : A := h k
theorem R5 {A B : Prop} (k : B) (h : B → A := by exact s2 t4 t1) : A := h k
theorem R6 {A B : Prop} (k : B) (h : B → A := by exact s2 t4 t2) : A := h k
theorem R7 {A B : Prop} (k : B) (h : B → A := by exact s2 t4 (s2 t2 t1)) : A := h k
theorem R8 {A B : Prop} (k : B) (h : B → A := by exact t8) : A := h k
theorem R9 {A B : Prop} (k : B) (h : B → A := by exact s2 t8 t1) : A := h k
theorem R10 {A B : Prop} (k : B) (h : B → A := by exact s2 t8 t2) : A := h k
theorem R11 {A B : Prop} (k : B) (h : B → A := by exact s2 t8 (s2 t2 t1)) : A := h k
theorem R12 {A B : Prop} (k : B) (h : B → A := by exact s2 t8 t4) : A := h k
theorem R13 {A B : Prop} (k : B) (h : B → A := by exact s2 t8 (s2 t4 t1)) : A := h k
theorem R14 {A B : Prop} (k : B) (h : B → A := by exact s2 t8 (s2 t4 t2)) : A := h k
theorem R15 {A B : Prop} (k : B) (h : B → A := by exact s2 t8 (s2 t4 (s2 t2 t1))) : A := h k
theorem R16 {A B : Prop} (k : B) (h : B → A := by exact t16) : A := h k
theorem R17 {A B : Prop} (k : B) (h : B → A := by exact s2 t16 t1) : A := h k
theorem R18 {A B : Prop} (k : B) (h : B → A := by exact s2 t16 t2) : A := h k
theorem R19 {A B : Prop} (k : B) (h : B → A := by exact s2 t16 (s2 t2 t1)) : A := h k
theorem R20 {A B : Prop} (k : B) (h : B → A := by exact s2 t16 t4) : A := h k
theorem R21 {A B : Prop} (k : B) (h : B → A := by exact s2 t16 (s2 t4 t1)) : A := h k
theorem R22 {A B : Prop} (k : B) (h : B → A := by exact s2 t16 (s2 t4 t2)) : A := h k
theorem R23 {A B : Prop} (k : B) (h : B → A := by exact s2 t16 (s2 t4 (s2 t2 t1))) : A := h k
theorem R24 {A B : Prop} (k : B) (h : B → A := by exact s2 t16 t8) : A := h k
theorem R26 {A B : Prop} (k : B) (h : B → A := by exact s2 t16 (s2 t8 t2)) : A := h k
theorem R27 {A B : Prop} (k : B) (h : B → A := by exact s2 t16 (s2 t8 (s2 t2 t1))) : A := h k
theorem R36 {A B : Prop} (k : B) (h : B → A := by exact s2 t32 t4) : A := h k
end Go.AV
namespace Go.M
open Go.AV
abbrev Str := List UInt8
@[reducible] def strs (l : List Str) : AV := AV.list 1 (l.map fun s => [AV.str s])
@[reducible] def ints (l : List Int) : AV := AV.list 1 (l.map fun s => [AV.int s])
def D2 {α : Type} (f : α → Nat) (l : List α) : Nat := l.length + (l.map f).sum
def szR (n : Nat) (left : Int) : Int := if left < n then -1 else left - n
theorem sum_le {α : Type} (f : α → Nat) : ∀ (l : List α) (i : Nat) (x : α), l[i]? = some x → ((l.take i).map f).sum + f x ≤ (l.map f).sum
  | [], i, x, h => by simp at h
  | y :: l, 0, x, h => by simp at h; subst h; simp
  | y :: l, i + 1, x, h => by
    have := sum_le f l i x Al3;simp only [Al7, T3, List.sum_cons]; omega
theorem BE2 {α : Type} {f : α → Nat} {l : List α} {x : α} (h : x ∈ l) : f x ≤ D2 f l := by
  obtain ⟨i, hi⟩ := j4 h;have := sum_le f l i x hi;unfold D2; omega
theorem P7 {α : Type} {f : α → Nat} {l : List α} : l.length ≤ D2 f l := by unfold D2; omega
theorem m6 {α : Type} {f : α → Nat} {l : List α} {i : Nat} {x : α} (h : l[i]? = some x) : f x ≤ D2 f l := BE2 (C3 h)
theorem Bn7 {α : Type} {a b : List α} {i : Nat} (hl : a.length = b.length) (h : a.take i = b.take i) (hi : a.length ≤ i) : a = b := by
  rwa [U1 hi, U1 qz8] at h
theorem BV6 {α : Type} {a b : List α} {i : Nat} {x : α} (h : a.take i = b.take i) (ha : a[i]? = some x) (hb : b[i]? = some x) : a.take (i + 1) = b.take (i + 1) := by
  rw [V7, V7, h, ha, hb]
theorem Ap6 {α : Type} [Inhabited α] (l : List α) (i : Nat) : ∃ y, i < l.length → l[i]? = some y := ⟨l[i]?.getD default, fun h => by rw [O1 h]; rfl⟩
theorem del_keep {α : Type} {p : α → Bool} {l m : List α} {i j : Nat} {x : α} (hm : m.length = l.length) (hij : i ≤ j) (hx : l[j]? = some x) (h1 : m.take i = (l.take j).filter p) (h2 : m.drop j = l.drop j) (hp : p x = true) : (m.set i x).take (i + 1) = (l.take (j + 1)).filter p ∧ (m.set i x).drop (j + 1) = l.drop (j + 1) ∧ (m.set i x).length = l.length := by
  have hj : j < l.length := (F4.1 hx).1;refine ⟨?_, ?_, by simp [hm]⟩
  · rw [V7, V7, hx, List.filter_append, ← h1, List.take_set_of_le (L5 _), AR3 qz8]
    simp [hp]
  · rw [List.drop_set_of_lt qz8]
    have := D7 (List.drop 1) h2;simpa [List.drop_drop] using this
theorem del_skip {α : Type} {p : α → Bool} {l m : List α} {i j : Nat} {x : α} (hx : l[j]? = some x) (h1 : m.take i = (l.take j).filter p) (h2 : m.drop j = l.drop j) (hp : p x = false) : m.take i = (l.take (j + 1)).filter p ∧ m.drop (j + 1) = l.drop (j + 1) := by
  refine ⟨?_, ?_⟩
  · rw [V7, hx, List.filter_append, ← h1]; simp [hp]
  · have := D7 (List.drop 1) h2
    simpa [List.drop_drop] using this
def bs {α : Type} (f : α → Int) (l : List α) (i j : Nat) : Nat :=
  if i < j then
    match l[(i + j) / 2]? with
    | some x => if f x < 0 then bs f l ((i + j) / 2 + 1) j else bs f l i ((i + j) / 2)
    | none => i
  else i
termination_by j - i
def Bz6 {α : Type} (f : α → Int) (l : List α) (n : Nat) : Bool :=
  match l[n]? with
  | some x => f x == 0
  | none => false
theorem bs_lo {α : Type} {f : α → Int} {l : List α} {i j : Nat} {x : α} (h : i < j) (hx : l[(i + j) / 2]? = some x) (hf : f x < 0) : bs f l i j = bs f l ((i + j) / 2 + 1) j := by
  rw [bs, D1 h, hx]; simp only [hf, if_true]
theorem bs_hi {α : Type} {f : α → Int} {l : List α} {i j : Nat} {x : α} (h : i < j) (hx : l[(i + j) / 2]? = some x) (hf : ¬ f x < 0) : bs f l i j = bs f l i ((i + j) / 2) := by
  rw [bs, D1 h, hx]; simp only [hf, if_false]
theorem CP9 {α : Type} {f : α → Int} {l : List α} {i j : Nat} (h : ¬ i < j) : bs f l i j = i := by rw [bs, D4 h]
theorem half_eq {i j : Nat} (h : i + j ≤ 9223372036854775807) : IntKind.i64.wrap (IntKind.u64.wrap ((i : Int) + (j : Int)) / 2 ^ ((1 : Int).toNat)) = ((i + j) / 2 : Nat) := by
  have h1 : IntKind.u64.wrap ((i : Int) + (j : Int)) = (i : Int) + (j : Int) := by simp only [IntKind.wrap, IntKind.bits, IntKind.signed]; simp; omega
  rw [h1];have h2 : ((i : Int) + (j : Int)) / 2 ^ ((1 : Int).toNat) = (((i + j) / 2 : Nat) : Int) := by
    show ((i : Int) + (j : Int)) / 2 = _
    omega
  rw [h2];exact Am1 qz8
def idxFrom {α : Type} (p : α → Bool) : List α → Int → Int
  | [], _ => -1
  | x :: xs, k => if p x then k else idxFrom p xs (k + 1)
theorem BG6 {α : Type} (p : α → Bool) : ∀ (l : List α) (k : Int), 0 ≤ k → decide (0 ≤ idxFrom p l k) = l.any p
  | [], _, _ => rfl
  | x :: xs, k, h => by
    unfold idxFrom
    cases hp : p x with
    | true => simp [hp]; exact h
    | false => simp [hp, BG6 p xs (k + 1) qz8]
theorem BA7 {α : Type} (f : α → Bool) : ∀ (l : List α) (k : Nat), (idxFrom f l k = -1 ∧ l.filter (fun x => !f x) = l) ∨ ∃ n x, idxFrom f l k = ((k + n : Nat) : Int) ∧ l[n]? = some x ∧ l.take n = (l.take (n + 1)).filter (fun x => !f x)
  | [], k => .inl ⟨rfl, rfl⟩
  | x :: l, k => by
    unfold idxFrom
    cases hf : f x with
    | true => exact .inr ⟨0, x, by simp, rfl, by simp [hf]⟩
    | false =>
      have hk : (k : Int) + 1 = ((k + 1 : Nat) : Int) := by omega
      rw [hk];rcases BA7 f l (k + 1) with ⟨h1, h2⟩ | ⟨n, y, h1, h2, h3⟩
      · exact .inl ⟨by simpa using h1, by simp [hf, h2]⟩
      · refine .inr ⟨n + 1, y, ?_, by simpa using h2, ?_⟩
        · simp only [Bool.false_eq_true, if_false, h1]; omega
        · rw [Al7, Al7, List.filter_cons, hf]
          simp only [Bool.not_false, if_true, ← h3]
theorem ins_grow {α β : Type} {f : α → β} {l : List α} {x : α} {i : Nat} {Z : List β} (hi : i ≤ l.length) (hZ : Z.length = l.length + 1 - i) : (l.take i ++ x :: l.drop i).map f =
    ((((l.map f).take i ++ Z).take i ++ [f x] ++ ((l.map f).take i ++ Z).drop (i + [f x].length)).take (i + 1) ++ (l.map f).drop i ++ (((l.map f).take i ++ Z).take i ++ [f x] ++ ((l.map f).take i ++ Z).drop (i + [f x].length)).drop (i + 1 + ((l.map f).drop i).length)) := by
  have h1 : ((l.map f).take i).length = i := by simp; omega
  have hA : ((l.map f).take i ++ Z).take i = (l.map f).take i := List.take_left' h1;have h2 : ((l.map f).take i ++ [f x]).length = i + 1 := by simp; omega
  rw [hA, List.take_left' h2];have hB : ((l.map f).take i ++ [f x] ++ ((l.map f).take i ++ Z).drop (i + [f x].length)).length ≤ i + 1 + ((l.map f).drop i).length := by
    simp only [G3, I5, A6, H1, P6, w4, hZ]; omega
  rw [l6 hB];simp [List.map_take, List.map_drop]
theorem Cr7 {α β : Type} {f : α → β} {l : List α} {x : α} {i : Nat} (hi : i < l.length) : (l.take i ++ x :: l.drop i).map f =
    ((l.map f).take (i + 1) ++ (l.map f).drop i).take i ++ [f x] ++ ((l.map f).take (i + 1) ++ (l.map f).drop i).drop (i + [f x].length) := by
  have h1 : ((l.map f).take (i + 1)).length = i + 1 := by simp; omega
  rw [List.take_append_of_le_length qz8, List.take_take, Nat.min_eq_left qz8, show i + [f x].length = i + 1 from rfl, List.drop_left' h1];simp [List.map_take, List.map_drop]
theorem Cr8 {α : Type} {p : α → Bool} {cs : α → List AV} {l : List α} {i : Nat} {x : α} (hx : l[i]? = some x) (hp : p x = true) : ((l.take i).filter p).map cs ++ [cs x] = ((l.take (i + 1)).filter p).map cs := by
  rw [V7, hx, List.filter_append, V1]; simp [hp]
theorem Cr9 {α : Type} {p : α → Bool} {cs : α → List AV} {l : List α} {i : Nat} {x : α} (hx : l[i]? = some x) (hp : p x = false) : ((l.take i).filter p).map cs = ((l.take (i + 1)).filter p).map cs := by
  rw [V7, hx, List.filter_append, V1]; simp [hp]
theorem CZ9 {α : Type} {m l : List α} {j : Nat} {x : α} (h : m.drop j = l.drop j) (hx : l[j]? = some x) : m[j]? = some x := by
  have h1 : (m.drop j)[0]? = (l.drop j)[0]? := by rw [h]
  simpa [hx] using h1
theorem del_end {α : Type} {p : α → Bool} {cs : α → List AV} {l m : List α} {i j k : Nat} {z : List AV} (h1 : m.take i = (l.take j).filter p) (h2 : l.length ≤ j) (h3 : i ≤ m.length) : ((m.map cs).take i ++ List.replicate k z).take i = (l.filter p).map cs := by
  rw [List.take_left' AN6, ← List.map_take, h1, U1 h2]
structure u9 where
  Off : Int
deriving DecidableEq, Inhabited
def u9.cs (c : u9) : List AV := [AV.int c.Off]
theorem u9.flat (c : u9) : ∀ x ∈ c.cs, Flat x := (J8 (r5 _ _) X2)
def u9.size (c : u9) : Nat := 0
structure A4 where
  Key : Str
  Val : Str
  Gone : Bool
deriving DecidableEq, Inhabited
def A4.cs (c : A4) : List AV := [AV.str c.Key, AV.str c.Val, AV.bool c.Gone]
theorem A4.flat (c : A4) : ∀ x ∈ c.cs, Flat x := (J8 (AE6 _) (J8 (AE6 _) (J8 (y5 _) X2)))
def A4.size (c : A4) : Nat := c.Key.length + c.Val.length
def A4.ok (c : A4) : Prop := c.Key.length ≤ 9223372036854775807 ∧ c.Val.length ≤ 9223372036854775807
structure O0 where
  Kind : Int
  Txn : Int
  Time : Int
  Lead : Int
  Reads : List Str
  Writes : List A4
  Yes : Bool
deriving DecidableEq, Inhabited
def O0.cs (c : O0) : List AV := [AV.int c.Kind, AV.int c.Txn, AV.int c.Time, AV.int c.Lead, strs c.Reads, AV.list 3 (c.Writes.map A4.cs), AV.bool c.Yes]
def O0.size (c : O0) : Nat := D2 (fun x => x.length) c.Reads + D2 A4.size c.Writes
def O0.ok (c : O0) : Prop := (∀ x ∈ c.Reads, x.length ≤ 9223372036854775807) ∧ (∀ x ∈ c.Writes, x.ok)
structure K1 where
  Term : Int
  Rec : O0
deriving DecidableEq, Inhabited
def K1.cs (c : K1) : List AV := [AV.int c.Term, AV.int c.Rec.Kind, AV.int c.Rec.Txn, AV.int c.Rec.Time, AV.int c.Rec.Lead, strs c.Rec.Reads, AV.list 3 (c.Rec.Writes.map A4.cs), AV.bool c.Rec.Yes]
def K1.size (c : K1) : Nat := c.Rec.size
def K1.ok (c : K1) : Prop := c.Rec.ok
structure F3 where
  Up : Bool
  Log : List K1
  Sure : Int
deriving DecidableEq, Inhabited
def F3.cs (c : F3) : List AV := [AV.bool c.Up, AV.list 8 (c.Log.map K1.cs), AV.int c.Sure]
def F3.size (c : F3) : Nat := D2 K1.size c.Log
def F3.ok (c : F3) : Prop := (∀ x ∈ c.Log, x.ok)
structure C8 where
  Reps : List F3
  Term : Int
  Lead : Int
deriving DecidableEq, Inhabited
def C8.cs (c : C8) : List AV := [AV.list 3 (c.Reps.map F3.cs), AV.int c.Term, AV.int c.Lead]
def C8.size (c : C8) : Nat := D2 F3.size c.Reps
def C8.ok (c : C8) : Prop := (∀ x ∈ c.Reps, x.ok)
structure J5 where
  Key : Str
  Txn : Int
  Write : Bool
deriving DecidableEq, Inhabited
def J5.cs (c : J5) : List AV := [AV.str c.Key, AV.int c.Txn, AV.bool c.Write]
theorem J5.flat (c : J5) : ∀ x ∈ c.cs, Flat x := (J8 (AE6 _) (J8 (r5 _ _) (J8 (y5 _) X2)))
def J5.size (c : J5) : Nat := c.Key.length
def J5.ok (c : J5) : Prop := c.Key.length ≤ 9223372036854775807
structure Y3 where
  Time : Int
  Val : Str
  Gone : Bool
deriving DecidableEq, Inhabited
def Y3.cs (c : Y3) : List AV := [AV.int c.Time, AV.str c.Val, AV.bool c.Gone]
theorem Y3.flat (c : Y3) : ∀ x ∈ c.cs, Flat x := (J8 (r5 _ _) (J8 (AE6 _) (J8 (y5 _) X2)))
def Y3.size (c : Y3) : Nat := c.Val.length
def Y3.ok (c : Y3) : Prop := c.Val.length ≤ 9223372036854775807
structure C4 where
  Key : Str
  Vers : List Y3
deriving DecidableEq, Inhabited
def C4.cs (c : C4) : List AV := [AV.str c.Key, AV.list 3 (c.Vers.map Y3.cs)]
def C4.size (c : C4) : Nat := c.Key.length + D2 Y3.size c.Vers
def C4.ok (c : C4) : Prop := c.Key.length ≤ 9223372036854775807 ∧ (∀ x ∈ c.Vers, x.ok)
structure F1 where
  Txn : Int
  Time : Int
  Lead : Int
  Reads : List Str
  Writes : List A4
deriving DecidableEq, Inhabited
def F1.cs (c : F1) : List AV := [AV.int c.Txn, AV.int c.Time, AV.int c.Lead, strs c.Reads, AV.list 3 (c.Writes.map A4.cs)]
def F1.size (c : F1) : Nat := D2 (fun x => x.length) c.Reads + D2 A4.size c.Writes
def F1.ok (c : F1) : Prop := (∀ x ∈ c.Reads, x.length ≤ 9223372036854775807) ∧ (∀ x ∈ c.Writes, x.ok)
structure P5 where
  Txn : Int
  Yes : Bool
  Time : Int
deriving DecidableEq, Inhabited
def P5.cs (c : P5) : List AV := [AV.int c.Txn, AV.bool c.Yes, AV.int c.Time]
theorem P5.flat (c : P5) : ∀ x ∈ c.cs, Flat x := (J8 (r5 _ _) (J8 (y5 _) (J8 (r5 _ _) X2)))
def P5.size (c : P5) : Nat := 0
structure H2 where
  Floor : Int
  Cells : List C4
  Held : List F1
  Told : List P5
deriving DecidableEq, Inhabited
def H2.cs (c : H2) : List AV := [AV.int c.Floor, AV.list 2 (c.Cells.map C4.cs), AV.list 5 (c.Held.map F1.cs), AV.list 3 (c.Told.map P5.cs)]
def H2.size (c : H2) : Nat := D2 C4.size c.Cells + D2 F1.size c.Held + c.Told.length
def H2.ok (c : H2) : Prop := (∀ x ∈ c.Cells, x.ok) ∧ (∀ x ∈ c.Held, x.ok)
structure An8 where
  Low : Int
  High : Int
deriving DecidableEq, Inhabited
def An8.cs (c : An8) : List AV := [AV.int c.Low, AV.int c.High]
theorem An8.flat (c : An8) : ∀ x ∈ c.cs, Flat x := (J8 (r5 _ _) (J8 (r5 _ _) X2))
def An8.size (c : An8) : Nat := 0
structure AY4 where
  Txn : Int
  Reads : List Str
  Writes : List A4
deriving DecidableEq, Inhabited
def AY4.cs (c : AY4) : List AV := [AV.int c.Txn, strs c.Reads, AV.list 3 (c.Writes.map A4.cs)]
def AY4.size (c : AY4) : Nat := D2 (fun x => x.length) c.Reads + D2 A4.size c.Writes
def AY4.ok (c : AY4) : Prop := (∀ x ∈ c.Reads, x.length ≤ 9223372036854775807) ∧ (∀ x ∈ c.Writes, x.ok)
structure BF6 where
  Cuts : List Str
  States : List H2
  Orders : List AY4
deriving DecidableEq, Inhabited
def BF6.cs (c : BF6) : List AV := [strs c.Cuts, AV.list 4 (c.States.map H2.cs), AV.list 3 (c.Orders.map AY4.cs)]
def BF6.size (c : BF6) : Nat := D2 (fun x => x.length) c.Cuts + D2 H2.size c.States + D2 AY4.size c.Orders
def BF6.ok (c : BF6) : Prop := (∀ x ∈ c.Cuts, x.length ≤ 9223372036854775807) ∧ (∀ x ∈ c.States, x.ok) ∧ (∀ x ∈ c.Orders, x.ok)
structure TOp where
  Kind : Int
  Key : Str
  Val : Str
  By : Int
deriving DecidableEq, Inhabited
def TOp.cs (c : TOp) : List AV := [AV.int c.Kind, AV.str c.Key, AV.str c.Val, AV.int c.By]
theorem TOp.flat (c : TOp) : ∀ x ∈ c.cs, Flat x := (J8 (r5 _ _) (J8 (AE6 _) (J8 (AE6 _) (J8 (r5 _ _) X2))))
def TOp.size (c : TOp) : Nat := c.Key.length + c.Val.length
def TOp.ok (c : TOp) : Prop := c.Key.length ≤ 9223372036854775807 ∧ c.Val.length ≤ 9223372036854775807
structure H4 where
  Key : Str
  Val : Str
  There : Bool
deriving DecidableEq, Inhabited
def H4.cs (c : H4) : List AV := [AV.str c.Key, AV.str c.Val, AV.bool c.There]
theorem H4.flat (c : H4) : ∀ x ∈ c.cs, Flat x := (J8 (AE6 _) (J8 (AE6 _) (J8 (y5 _) X2)))
def H4.size (c : H4) : Nat := c.Key.length + c.Val.length
def H4.ok (c : H4) : Prop := c.Key.length ≤ 9223372036854775807 ∧ c.Val.length ≤ 9223372036854775807
structure B1 where
  Ops : List TOp
  Got : List H4
  Terms : List Int
  Begin : Int
  End : Int
  Yes : Bool
  Time : Int
  Dead : Bool
  Put : Bool
  Stopped : Bool
deriving DecidableEq, Inhabited
def B1.cs (c : B1) : List AV := [AV.list 4 (c.Ops.map TOp.cs), AV.list 3 (c.Got.map H4.cs), ints c.Terms, AV.int c.Begin, AV.int c.End, AV.bool c.Yes, AV.int c.Time, AV.bool c.Dead, AV.bool c.Put, AV.bool c.Stopped]
def B1.size (c : B1) : Nat := D2 TOp.size c.Ops + D2 H4.size c.Got + c.Terms.length
def B1.ok (c : B1) : Prop := (∀ x ∈ c.Ops, x.ok) ∧ (∀ x ∈ c.Got, x.ok)
structure B5 where
  Node : Int
  Keys : List Str
  Got : List H4
  Time : Int
  Begin : Int
  End : Int
deriving DecidableEq, Inhabited
def B5.cs (c : B5) : List AV := [AV.int c.Node, strs c.Keys, AV.list 3 (c.Got.map H4.cs), AV.int c.Time, AV.int c.Begin, AV.int c.End]
def B5.size (c : B5) : Nat := D2 (fun x => x.length) c.Keys + D2 H4.size c.Got
def B5.ok (c : B5) : Prop := (∀ x ∈ c.Keys, x.length ≤ 9223372036854775807) ∧ (∀ x ∈ c.Got, x.ok)
structure E0 where
  Now : Int
  Count : Int
  Clocks : List u9
  Cuts : List Str
  Groups : List C8
  Locks : List (List J5)
  Promised : List Int
  Txns : List B1
  Looks : List B5
deriving DecidableEq, Inhabited
def E0.cs (c : E0) : List AV := [AV.int c.Now, AV.int c.Count, AV.list 1 (c.Clocks.map u9.cs), strs c.Cuts, AV.list 3 (c.Groups.map C8.cs), AV.list 1 (c.Locks.map fun x => [AV.list 3 (x.map J5.cs)]), ints c.Promised, AV.list 10 (c.Txns.map B1.cs), AV.list 6 (c.Looks.map B5.cs)]
def E0.size (c : E0) : Nat := c.Clocks.length + D2 (fun x => x.length) c.Cuts + D2 C8.size c.Groups + D2 (fun x => D2 J5.size x) c.Locks + c.Promised.length + D2 B1.size c.Txns + D2 B5.size c.Looks
def E0.ok (c : E0) : Prop := (∀ x ∈ c.Cuts, x.length ≤ 9223372036854775807) ∧ (∀ x ∈ c.Groups, x.ok) ∧ (∀ x ∈ c.Locks, (∀ y ∈ x, y.ok)) ∧ (∀ x ∈ c.Txns, x.ok) ∧ (∀ x ∈ c.Looks, x.ok)
structure Z1 where
  Kind : Int
  At : Int
  By : Int
deriving DecidableEq, Inhabited
def Z1.cs (c : Z1) : List AV := [AV.int c.Kind, AV.int c.At, AV.int c.By]
theorem Z1.flat (c : Z1) : ∀ x ∈ c.cs, Flat x := (J8 (r5 _ _) (J8 (r5 _ _) (J8 (r5 _ _) X2)))
def Z1.size (c : Z1) : Nat := 0
structure B4 where
  Txn : Int
  Begin : Int
  End : Int
  Yes : Bool
  Look : Bool
  Time : Int
  Got : List H4
  Writes : List A4
deriving DecidableEq, Inhabited
def B4.cs (c : B4) : List AV := [AV.int c.Txn, AV.int c.Begin, AV.int c.End, AV.bool c.Yes, AV.bool c.Look, AV.int c.Time, AV.list 3 (c.Got.map H4.cs), AV.list 3 (c.Writes.map A4.cs)]
def B4.size (c : B4) : Nat := D2 H4.size c.Got + D2 A4.size c.Writes
def B4.ok (c : B4) : Prop := (∀ x ∈ c.Got, x.ok) ∧ (∀ x ∈ c.Writes, x.ok)
structure AU4 where
  Ver : Int
  Cuts : List Str
  Groups : List Int
deriving DecidableEq, Inhabited
def AU4.cs (c : AU4) : List AV := [AV.int c.Ver, strs c.Cuts, ints c.Groups]
def AU4.size (c : AU4) : Nat := D2 (fun x => x.length) c.Cuts + c.Groups.length
def AU4.ok (c : AU4) : Prop := (∀ x ∈ c.Cuts, x.length ≤ 9223372036854775807)
structure AC0 where
  Time : Int
  Group : Int
  Key : Str
  Val : Str
  Gone : Bool
deriving DecidableEq, Inhabited
def AC0.cs (c : AC0) : List AV := [AV.int c.Time, AV.int c.Group, AV.str c.Key, AV.str c.Val, AV.bool c.Gone]
theorem AC0.flat (c : AC0) : ∀ x ∈ c.cs, Flat x := (J8 (r5 _ _) (J8 (r5 _ _) (J8 (AE6 _) (J8 (AE6 _) (J8 (y5 _) X2)))))
def AC0.size (c : AC0) : Nat := c.Key.length + c.Val.length
def AC0.ok (c : AC0) : Prop := c.Key.length ≤ 9223372036854775807 ∧ c.Val.length ≤ 9223372036854775807
structure An9 where
  Name : Str
  Col : Int
  Stage : Int
deriving DecidableEq, Inhabited
def An9.cs (c : An9) : List AV := [AV.str c.Name, AV.int c.Col, AV.int c.Stage]
theorem An9.flat (c : An9) : ∀ x ∈ c.cs, Flat x := (J8 (AE6 _) (J8 (r5 _ _) (J8 (r5 _ _) X2)))
def An9.size (c : An9) : Nat := c.Name.length
def An9.ok (c : An9) : Prop := c.Name.length ≤ 9223372036854775807
def within (n lo hi : Int) : Bool := decide (lo ≤ n) && decide (n ≤ hi)
def Ag5 (b : UInt8) : Bool := (decide ((97 : Int) ≤ (b.toNat : Int)) && decide ((b.toNat : Int) ≤ 122)) || (decide ((48 : Int) ≤ (b.toNat : Int)) && decide ((b.toNat : Int) ≤ 57))
def BR7 (s : Str) (c : UInt8) : Int := firstIdx ⟨s.toArray⟩ c
def hasB (s o : Str) : Bool := s.all fun c => !(!Ag5 c && decide (BR7 o c < 0))
def r7 (s : Str) : Bool := within s.length 1 12 && hasB s [46, 47]
def AZ2 (s : Str) : Bool := decide ((s.length : Int) ≤ 24) && hasB s [46, 45, 44, 95]
def AQ1 (s o : Str) : Bool := s.all fun c => (Ag5 c || o.any fun d => ((c.toNat : Int) == (d.toNat : Int)))
def m7 (s : Str) : Bool := within s.length 1 12 && AQ1 s [46, 47]
theorem CB4 (c : UInt8) (s o : Str) : hasB (c :: s) o = (!(!Ag5 c && decide (BR7 o c < 0)) && hasB s o) := rfl
theorem BV7 (c : UInt8) (s o : Str) : AQ1 (c :: s) o = ((Ag5 c || o.any fun d => ((c.toNat : Int) == (d.toNat : Int))) && AQ1 s o) := rfl
theorem idxB_neg (o : Str) (c : UInt8) : decide (BR7 o c < 0) = !(o.any fun d => ((c.toNat : Int) == (d.toNat : Int))) := by
  have hm : (o.any fun d => ((c.toNat : Int) == (d.toNat : Int))) = decide (c ∈ o) := by
    rw [AP2];simp only [List.any_eq_true, e8, I4];constructor
    · rintro ⟨d, hd, he⟩
      have : c = d := UInt8.toNat_inj.1 (by exact_mod_cast he);exact this ▸ hd
    · intro h; exact ⟨c, h, rfl⟩
  rw [hm];unfold BR7 firstIdx;have hsz : (ByteArray.mk o.toArray).size = o.length := by simp [ByteArray.size]
  have hget : ∀ i, i < o.length → (ByteArray.mk o.toArray)[i]! = o[i]! := fun i hi => by
    simp [getElem!_def, ByteArray.getElem?_lt', hsz, hi];rfl
  rw [hsz]
  cases hf : (List.range o.length).find? fun i => (ByteArray.mk o.toArray)[i]! == c with
  | some i =>
    have h1 := List.find?_some hf;have h2 := List.mem_range.1 (An5 hf);rw [hget i h2] at h1;have h3 : c ∈ o := by
      have : o[i]! = c := by simpa using h1
      rw [← this, getElem!_pos o i h2];exact List.getElem_mem h2
    simp [h3]
  | none =>
    have h1 := List.find?_eq_none.1 hf;have h3 : ¬ c ∈ o := fun hm => by
      obtain ⟨i, hi, he⟩ := List.getElem_of_mem hm;have := h1 i (List.mem_range.2 hi);rw [hget i hi, getElem!_pos o i hi, he] at this;simp at this
    simp [h3]
theorem Cf7 (s o : Str) : hasB s o = AQ1 s o := by
  unfold hasB AQ1;congr 1
  funext c
  rw [idxB_neg]
  cases Ag5 c <;> simp
theorem AW4 (s : Str) : r7 s = m7 s := by unfold r7 m7; rw [Cf7]
theorem K7 : ∀ a : Str, Op.bytesLess a a = false
  | [] => rfl
  | a :: x => by simp [Op.bytesLess, K7 x]
theorem X9 : ∀ a b : Str, Op.bytesLess a b = !(Op.bytesLess b a || b == a)
  | [], [] => rfl
  | [], _ :: _ => rfl
  | _ :: _, [] => rfl
  | a :: x, b :: y => by
    have ih := X9 x y;simp only [Op.bytesLess];by_cases hab : a = b
    · subst hab
      simp [ih]
    · have h1 : (a == b) = false := by simpa using hab
      have h2 : (b == a) = false := by simpa using fun h => hab h.symm
      have h3 : (b :: y == a :: x) = false := by simp [h2]
      simp only [h1, h2, h3, Bool.false_and, Bool.or_false];rw [AP2];simp only [I4, l7, AP0, UInt8.not_lt];constructor
      · exact UInt8.le_of_lt
      · exact fun h => UInt8.lt_of_le_of_ne h hab
def adj {α : Type} (p : α → α → Bool) : List α → Bool
  | [] => true
  | [_] => true
  | x :: y :: l => p x y && adj p (y :: l)
theorem CQ0 {α : Type} {l : List α} {k : Nat} {x y : α} (hy : l[k]? = some y) (hx : l[k + 1]? = some x) : l.drop k = y :: x :: l.drop (k + 2) := by
  rw [Go.AV.J2 hy, Go.AV.J2 hx]
theorem Ai8 {α : Type} {p : α → α → Bool} {l : List α} {i : Nat} {x y : α} (hx : l[i]? = some x) (hy : l[i - 1]? = some y) (h : 0 < i → p y x = true) : adj p (l.drop (i - 1)) = adj p (l.drop (i + 1 - 1)) := by
  cases i with
  | zero => rfl
  | succ k =>
    simp only [Nat.add_sub_cancel] at *;rw [CQ0 hy hx, Go.AV.J2 hx, adj, h qz8, Bool.true_and]
theorem Ai9 {α : Type} {p : α → α → Bool} {l : List α} {i : Nat} {x y : α} (hx : l[i]? = some x) (hy : l[i - 1]? = some y) (h0 : 0 < i) (h : p y x = false) : adj p (l.drop (i - 1)) = false := by
  cases i with
  | zero => omega
  | succ k =>
    simp only [Nat.add_sub_cancel] at *;rw [CQ0 hy hx, adj, h, Bool.false_and]
theorem Ap7 {α : Type} {p : α → α → Bool} {l : List α} {i : Nat} (h : l.length ≤ i) : adj p (l.drop (i - 1)) = true := by
  have hl : (l.drop (i - 1)).length ≤ 1 := by rw [w4]; omega
  match hd : l.drop (i - 1), hl with
  | [], _ => rfl
  | [x], _ => rfl
def AU5 (t : Int) : Bool := within t 1 100000
def AI7 (val : Str) (gone : Bool) : Bool := AZ2 val && !(gone && val != [])
def AJ5 (s : Str) : Bool := decide ((s.length : Int) ≤ 24) && AQ1 s [46, 45, 44, 95]
def Ae8 (key val : Str) (gone : Bool) : Bool := m7 key && AJ5 val && (!gone || val == [])
def BC2 (x y : Str) : Int := if Op.bytesLess x y then -1 else if Op.bytesLess y x then 1 else 0
theorem Bn8 (s : Str) : AZ2 s = AJ5 s := by unfold AZ2 AJ5; rw [Cf7]
theorem BG7 (s : Str) (g : Bool) : AI7 s g = (AJ5 s && (!g || s == [])) := by
  unfold AI7; rw [Bn8]; cases g <;> simp [bne]
theorem BA8 {α : Type} {p : α → Bool} {l : List α} {i : Nat} {x : α} (hx : l[i]? = some x) (h : p x = true) : (l.drop i).all p = (l.drop (i + 1)).all p := by
  rw [Go.AV.J2 hx, w5, h, Bool.true_and]
theorem BA9 {α : Type} {p : α → Bool} {l : List α} {i : Nat} {x : α} (hx : l[i]? = some x) (h : p x = false) : (l.drop i).all p = false := by
  rw [Go.AV.J2 hx, w5, h, Bool.false_and]
theorem BJ2 {α : Type} {p : α → Bool} {l : List α} {i : Nat} (h : l.length ≤ i) : (l.drop i).all p = true := by
  rw [l6 h]; rfl
theorem Ah3 {α β : Type} {f : α → β} {l : List α} {i : Nat} {x : α} (h : l[i]? = some x) : (l.take i).map f ++ [f x] = (l.take (i + 1)).map f := by
  rw [V7, h]; simp
def n7 (l : List Str) : Bool := l.all r7 && adj Op.bytesLess l
def U0 (l : List A4) : List Str := l.map A4.Key
def AE4 (l : List A4) : Bool := decide ((l.length : Int) ≤ 24) && n7 (U0 l) && !(l.any fun w => !AI7 w.Val w.Gone)
def T1 (a b : A4) : Bool := Op.bytesLess a.Key b.Key
def AM8 (w : A4) : Bool := Ae8 w.Key w.Val w.Gone
def AG7 (l : List A4) : Bool := (l.all AM8 && adj T1 l) && decide ((l.length : Int) ≤ 24)
def BL0 (l : List A4) : Bool := l.all (fun w => !w.Gone) && AG7 l
theorem Bc4 {α β : Type} (f : α → β) (p : β → β → Bool) : ∀ l : List α, adj p (l.map f) = adj (fun a b => p (f a) (f b)) l
  | [] => rfl
  | [_] => rfl
  | x :: y :: l => by
    have := Bc4 f p (y :: l);simp only [T3, adj] at *;rw [this]
theorem Ah4 (l : List A4) : AE4 l = AG7 l := by
  unfold AE4 AG7 n7 U0;rw [Bc4, List.all_map, List.not_any_eq_all_not];have h2 : l.all AM8 = ((l.all (r7 ∘ A4.Key)) && l.all fun w => AJ5 w.Val && (!w.Gone || w.Val == [])) := by
    induction l with
    | nil => rfl
    | cons w l ih =>
      simp only [w5, ih, AM8, Ae8, Function.comp, AW4, Bool.and_assoc]
      cases m7 w.Key <;> cases AJ5 w.Val <;> cases (!w.Gone || w.Val == []) <;> simp only [Bool.true_and, Bool.and_true, Bool.false_and, Bool.and_false]
  have h1 : (l.all fun w => !!AI7 w.Val w.Gone) = l.all fun w => AJ5 w.Val && (!w.Gone || w.Val == []) := by
    congr 1; funext w; rw [Bool.not_not, BG7]
  rw [h1, h2];show _ = _
  have h3 : adj (fun a b => Op.bytesLess a.Key b.Key) l = adj T1 l := rfl;rw [h3]
  cases l.all (r7 ∘ A4.Key) <;> cases adj T1 l <;> cases decide ((l.length : Int) ≤ 24) <;> cases (l.all fun w => AJ5 w.Val && (!w.Gone || w.Val == [])) <;> rfl
def AO1 (n : Int) : Bool := within n 1 60
def Bd7 (r : O0) : Bool := ((r.Lead == 0) && ((r.Reads.length : Int) == 0)) && ((r.Writes.length : Int) == 0)
def Ay5 (r : O0) : Bool := (((((((AO1 r.Txn && AU5 r.Time) && within r.Lead 0 3) && decide ((r.Reads.length : Int) ≤ 8)) && n7 r.Reads) && decide ((r.Writes.length : Int) ≤ 8)) && AE4 r.Writes) && decide (0 < (r.Reads.length : Int) + (r.Writes.length : Int))) && !r.Yes
def Bt4 (r : O0) : Bool := (Bd7 r && AO1 r.Txn) && ((r.Yes && AU5 r.Time) || (!r.Yes && (r.Time == 0)))
def good4 (r : O0) : Bool := ((Bd7 r && (r.Txn == 0)) && AU5 r.Time) && !r.Yes
def U7 (r : O0) : Bool := if r.Kind = 1 then Ay5 r else if r.Kind = 2 ∨ r.Kind = 3 then Bt4 r else if r.Kind = 4 then good4 r else false
def BL1 (l : List Str) : Bool := (l.all m7 && adj Op.bytesLess l) && decide ((l.length : Int) ≤ 8)
def Aw2 (r : O0) : Bool := (r.Kind != 1) && ((r.Lead != 0) || decide (0 < (r.Reads.length : Int) + (r.Writes.length : Int)))
def l4G1 (r : O0) : Bool := ((((((within r.Txn 1 60 && within r.Time 1 100000) && within r.Lead 0 3) && BL1 r.Reads) && AG7 r.Writes) && within (r.Writes.length : Int) 0 8) && decide (0 < (r.Reads.length : Int) + (r.Writes.length : Int))) && !r.Yes
def l4G2 (r : O0) : Bool := within r.Txn 1 60 && ((r.Yes && within r.Time 1 100000) || (!r.Yes && (r.Time == 0)))
def l4G4 (r : O0) : Bool := (((r.Kind == 4) && (r.Txn == 0)) && within r.Time 1 100000) && !r.Yes
def Av0 (r : O0) : Bool := if Aw2 r = true then false else if r.Kind = 1 then l4G1 r else if r.Kind = 2 ∨ r.Kind = 3 then l4G2 r else l4G4 r
theorem bare_odd {r : O0} (h : r.Kind ≠ 1) : Bd7 r = !Aw2 r := by
  have hk : (r.Kind != 1) = true := by simpa using h
  unfold Bd7 Aw2;rw [hk, Bool.true_and, AP2];simp only [F0, e8, l7, AL2, bne_eq_false_iff_eq, AP0];omega
theorem keys_eq (l : List Str) : (decide ((l.length : Int) ≤ 8) && n7 l) = BL1 l := by
  unfold n7 BL1;rw [show l.all r7 = l.all m7 by congr 1; funext s; rw [AW4]];rw [Bool.and_comm]
theorem Am3 (r : O0) : U7 r = Av0 r := by
  unfold U7 Av0;by_cases h1 : r.Kind = 1
  · have ho : Aw2 r = false := by unfold Aw2; rw [h1]; rfl
    rw [D1 h1, ho, D4 D5, D1 h1];unfold Ay5 l4G1;rw [← keys_eq, ← Ah4];have hw : within (r.Writes.length : Int) 0 8 = decide ((r.Writes.length : Int) ≤ 8) := by unfold within; simp
    rw [hw];unfold AO1 AU5
    cases within r.Txn 1 60 <;> cases within r.Time 1 100000 <;> cases within r.Lead 0 3 <;> cases decide ((r.Reads.length : Int) ≤ 8) <;> cases n7 r.Reads <;> cases decide ((r.Writes.length : Int) ≤ 8) <;> cases AE4 r.Writes <;> simp
  · have hb := bare_odd h1
    rw [D4 h1, D4 h1];by_cases h2 : r.Kind = 2 ∨ r.Kind = 3
    · rw [D1 h2, D1 h2]
      unfold Bt4 l4G2;rw [hb]
      cases Aw2 r <;> simp [AO1, AU5]
    · rw [D4 h2, D4 h2]
      unfold l4G4;by_cases h4 : r.Kind = 4
      · rw [D1 h4]
        unfold good4;rw [hb, h4]
        cases Aw2 r <;> simp [AU5]
      · rw [D4 h4]
        have e4 : (r.Kind == 4) = false := by simpa using h4
        rw [e4]; cases Aw2 r <;> simp
structure GoodR (r : O0) : Prop where
  kind : 1 ≤ r.Kind ∧ r.Kind ≤ 4
  txn : 0 ≤ r.Txn ∧ r.Txn ≤ 60
  time : 0 ≤ r.Time ∧ r.Time ≤ 100000
  lead : 0 ≤ r.Lead ∧ r.Lead ≤ 3
  reads : r.Reads.length ≤ 8 ∧ ∀ s ∈ r.Reads, m7 s = true
  writes : r.Writes.length ≤ 8 ∧ ∀ w ∈ r.Writes, m7 w.Key = true ∧ AJ5 w.Val = true ∧ (w.Gone = true → w.Val = [])
theorem CB5 {r : O0} (h : Bd7 r = true) : r.Lead = 0 ∧ r.Reads = [] ∧ r.Writes = [] := by
  unfold Bd7 at h;simp only [F0, e8] at h;exact ⟨h.1.1, As7 qz8, As7 qz8⟩
theorem goodR {r : O0} (h : U7 r = true) : GoodR r := by
  unfold U7 at h;split at h
  · rename_i hk
    unfold Ay5 AO1 AU5 within at h
    simp only [F0, I4] at h;obtain ⟨⟨⟨⟨⟨⟨⟨⟨h1, h2⟩, h3⟩, h4⟩, h5⟩, h6⟩, h7⟩, _⟩, _⟩ := h;rw [Ah4] at h7;unfold AG7 at h7;unfold n7 at h5;simp only [F0, l8] at h5 h7;refine ⟨by omega, by omega, by omega, by omega, ⟨by omega, fun s hs => by rw [← AW4]; exact h5.1 s hs⟩, ⟨by omega, fun w hw => ?_⟩⟩;have := h7.1.1 w hw;unfold AM8 Ae8 at this;simp only [F0, AD7, l7] at this;exact ⟨this.1.1, this.1.2, fun e => by rcases this.2 with g | g; rw [e] at g; cases g; simpa using g⟩
  · split at h
    · rename_i hk
      unfold Bt4 AO1 AU5 within at h
      simp only [F0, AD7, I4, e8, l7] at h;obtain ⟨⟨h1, h2⟩, h3⟩ := h;obtain ⟨l1, l2, l3⟩ := CB5 h1;refine ⟨by omega, by omega, by omega, by omega, by rw [l2]; exact ⟨D6 _, fun s hs => by cases hs⟩, by rw [l3]; exact ⟨D6 _, fun s hs => by cases hs⟩⟩
    · split at h
      · rename_i hk
        unfold good4 AU5 within at h
        simp only [F0, I4, e8, l7] at h;obtain ⟨⟨⟨h1, h2⟩, h3⟩, _⟩ := h;obtain ⟨l1, l2, l3⟩ := CB5 h1;refine ⟨by omega, by omega, by omega, by omega, by rw [l2]; exact ⟨D6 _, fun s hs => by cases hs⟩, by rw [l3]; exact ⟨D6 _, fun s hs => by cases hs⟩⟩
      · cases h
theorem Bn9 {s : Str} (h : m7 s = true) : s.length ≤ 12 := by
  unfold m7 within at h
  simp only [F0, I4] at h;have := h.1; omega
theorem Ck2 {s : Str} (h : AJ5 s = true) : s.length ≤ 24 := by
  unfold AJ5 at h;simp only [F0, I4] at h;have := h.1; omega
set_option linter.unusedSectionVars false
section
variable {α : Type} [Inhabited α]
structure Swo (lt : α → α → Bool) : Prop where
  asym : ∀ a b, lt a b = true → lt b a = false
  ntr : ∀ a b c, lt b a = false → lt c b = false → lt c a = false
def InR (l : List α) (a b : Nat) (x : α) : Prop := ∃ i, a ≤ i ∧ i < b ∧ l[i]? = some x
structure Shuf (l l' : List α) (a b : Nat) : Prop where
  len : l'.length = l.length
  perm : l'.Perm l
  out : ∀ i, i < a ∨ b ≤ i → l'[i]? = l[i]?
  inn : ∀ x, InR l' a b x → InR l a b x
end
section
variable {α : Type} [Inhabited α] [DecidableEq α]
def Aw3 (l : List α) : Nat → List α
  | 0 => []
  | n + 1 => if n ≠ 0 ∧ l[n]? = l[n - 1]? then Aw3 l n else Aw3 l n ++ (l[n]?).toList
def cmpL (l : List α) : List α := Aw3 l l.length
theorem CQ1 (l : List α) : ∀ n, (Aw3 l n).length ≤ n
  | 0 => L5 _
  | n + 1 => by
    have h := CQ1 l n;show (if n ≠ 0 ∧ l[n]? = l[n - 1]? then Aw3 l n else Aw3 l n ++ (l[n]?).toList).length ≤ n + 1
    split
    · omega
    · rw [G3]
      cases l[n]? <;> simp <;> omega
end
theorem T8 : ∀ {a b c : Str}, Op.bytesLess a b = true → Op.bytesLess b c = true → Op.bytesLess a c = true
  | [], b, c, h1, h2 => by
    cases c with
    | nil => cases b <;> simp [Op.bytesLess] at h2
    | cons z c => rfl
  | x :: a, [], _, h1, _ => by simp [Op.bytesLess] at h1
  | x :: a, y :: b, [], _, h2 => by simp [Op.bytesLess] at h2
  | x :: a, y :: b, z :: c, h1, h2 => by
    simp only [Op.bytesLess, AD7, F0, I4, e8] at h1 h2 ⊢;rcases h1 with h1 | ⟨h1, h1'⟩
    · rcases h2 with h2 | ⟨h2, _⟩
      · exact .inl (UInt8.lt_trans h1 h2)
      · subst h2; exact .inl h1
    · subst h1
      rcases h2 with h2 | ⟨h2, h2'⟩
      · exact .inl h2
      · exact .inr ⟨h2, T8 h1' h2'⟩
theorem BO6 (a b : Str) : BC2 a b < 0 ↔ Op.bytesLess a b = true := by
  unfold BC2
  cases h1 : Op.bytesLess a b
  · cases h2 : Op.bytesLess b a <;> simp
  · simp
theorem Bf9 (a b : Str) : BC2 a b = 0 ↔ a = b := by
  unfold BC2;have h3 := X9 a b
  cases h1 : Op.bytesLess a b
  · cases h2 : Op.bytesLess b a
    · rw [h1, h2] at h3; simp at h3; simp [h3]
    · simp; intro h; subst h; rw [h1] at h2; cases h2
  · simp; intro h; subst h; rw [K7] at h1; cases h1
theorem Bc5 {α : Type} {p : α → α → Bool} (tr : ∀ a b c, p a b = true → p b c = true → p a c = true) : ∀ {l : List α} {x : α}, adj p (x :: l) = true → ∀ y ∈ l, p x y = true
  | [], _, _, y, hy => by simp at hy
  | z :: l, x, h, y, hy => by
    simp only [adj, F0] at h;rcases O5.1 hy with rfl | hy
    · exact h.1
    · exact tr _ _ _ h.1 (Bc5 tr h.2 y hy)
theorem BO7 {α : Type} {p : α → α → Bool} {l : List α} {x : α} (h : adj p (x :: l) = true) : adj p l = true := by
  cases l with
  | nil => rfl
  | cons y l => simp only [adj, F0] at h; exact h.2
theorem Ad5 {α : Type} {p : α → α → Bool} (tr : ∀ a b c, p a b = true → p b c = true → p a c = true) : ∀ {l : List α}, adj p l = true → ∀ {i j : Nat} {x y : α}, i < j → l[i]? = some x → l[j]? = some y → p x y = true
  | [], _, i, j, x, y, _, hx, _ => by simp at hx
  | z :: l, h, 0, j + 1, x, y, _, hx, hy => by
    simp at hx; subst hx;exact Bc5 tr h y (C3 Aw4)
  | z :: l, h, i + 1, j + 1, x, y, hij, hx, hy => Ad5 tr (BO7 h) (by omega : i < j) AS0 Aw4
theorem bs_spec {α : Type} (f : α → Int) (l : List α) (down : ∀ (i j : Nat) (x y : α), i < j → l[i]? = some x → l[j]? = some y → f y < 0 → f x < 0) : ∀ (d i j : Nat), j - i = d → i ≤ j → j ≤ l.length →
    (∀ k x, k < i → l[k]? = some x → f x < 0) → (∀ x, l[j]? = some x → ¬ f x < 0) → (∀ k x, k < bs f l i j → l[k]? = some x → f x < 0) ∧ (∀ x, l[bs f l i j]? = some x → ¬ f x < 0) := by
  intro d;induction d using Nat.strongRecOn with
  | _ d ih =>
    intro i j hd hij hjl hlo hhi;by_cases h : i < j
    · obtain ⟨x, hx⟩ := Go.AV.B3 (show (i + j) / 2 < l.length by omega)
      by_cases hf : f x < 0
      · rw [bs_lo h hx hf]
        refine ih (j - ((i + j) / 2 + 1)) qz8 _ _ rfl qz8 hjl (fun k y hk hy => ?_) hhi;rcases Nat.lt_or_ge k ((i + j) / 2) with h1 | h1
        · exact down k _ y x h1 hy hx hf
        · have : k = (i + j) / 2 := by omega
          subst this;rw [hx] at hy; injection hy with hy; subst hy; exact hf
      · rw [bs_hi h hx hf]
        exact ih ((i + j) / 2 - i) qz8 _ _ rfl qz8 qz8 hlo (fun y hy => by rw [hx] at hy; injection hy with hy; subst hy; exact hf)
    · rw [CP9 h]
      have : i = j := by omega
      subst this;exact ⟨hlo, hhi⟩
def Ba0 (k : Str) (w : A4) : Int := BC2 w.Key k
def AP5 (l : List A4) (k : Str) : Nat := bs (Ba0 k) l 0 l.length
def Ao0 (l : List A4) (k : Str) : Bool := Bz6 (Ba0 k) l (AP5 l k)
theorem AD8 (a b c : A4) (h : T1 a b = true) (k : T1 b c = true) : T1 a c = true := T8 h k
theorem CB6 {l : List A4} (h : adj T1 l = true) (k : Str) : (∀ i x, i < AP5 l k → l[i]? = some x → Op.bytesLess x.Key k = true) ∧ (∀ x, l[AP5 l k]? = some x → Op.bytesLess x.Key k = false) := by
  have := bs_spec (Ba0 k) l (fun i j x y hij hx hy hf => by
    unfold Ba0 at *;rw [BO6] at *;exact T8 (Ad5 AD8 h hij hx hy) hf) l.length 0 l.length rfl (D6 _) (L5 _) (fun k x hk => by omega) (fun x hx => by rw [Ah7 (L5 _)] at hx; cases hx)
  refine ⟨fun i x hi hx => (BO6 _ _).1 (this.1 i x hi hx), fun x hx => ?_⟩;have h2 := this.2 x hx;unfold Ba0 at h2;rw [BO6] at h2;simpa using h2
def findW (l : List A4) (k : Str) : Option A4 := l.find? fun w => w.Key == k
theorem findW_eq {l : List A4} (h : adj T1 l = true) (k : Str) : findW l k = if Ao0 l k = true then l[AP5 l k]? else none := by
  obtain ⟨h1, h2⟩ := CB6 h k;have hat : ∀ w ∈ l, w.Key = k → l[AP5 l k]? = some w := fun w hw he => by
    obtain ⟨i, hi⟩ := j4 hw;rcases Nat.lt_trichotomy i (AP5 l k) with hlt | heq | hgt
    · have := h1 i w hlt hi
      rw [he, K7] at this; cases this
    · rw [← heq]; exact hi
    · obtain ⟨y, hy⟩ := Go.AV.B3 (show AP5 l k < l.length by have := (F4.1 hi).1; omega)
      have h3 := h2 y hy;have h4 := Ad5 AD8 h hgt hy hi;unfold T1 at h4;rw [he, h3] at h4; cases h4
  unfold Ao0 Bz6 findW
  cases hp : l[AP5 l k]? with
  | none =>
    simp only [Bool.false_eq_true, if_false];rw [List.find?_eq_none];intro w hw;simp only [e8];intro he;have := hat w hw he;rw [hp] at this; cases this
  | some y =>
    simp only [Ba0, e8, Bf9];by_cases hk : y.Key = k
    · rw [D1 hk]
      cases hf : l.find? fun w => w.Key == k with
      | none =>
        have := List.find?_eq_none.1 hf y (C3 hp);simp [hk] at this
      | some w =>
        have h5 := List.find?_some hf;have h6 := hat w (An5 hf) (by simpa using h5);rw [hp] at h6; exact h6.symm
    · rw [D4 hk, List.find?_eq_none]
      intro w hw;simp only [e8];intro he;have := hat w hw he;rw [hp] at this; injection this with this; subst this; exact hk he
def BR8 (l : List A4) (k : Str) : H4 := if Ao0 l k = true then (match l[AP5 l k]? with | some w => ⟨k, w.Val, true⟩ | none => ⟨k, [], true⟩) else ⟨k, [], false⟩
def ins : List A4 → A4 → List A4
  | [], w => [w]
  | x :: l, w => if Op.bytesLess x.Key w.Key = true then x :: ins l w else if x.Key = w.Key then w :: l else w :: x :: l
theorem BV8 {w : A4} : ∀ {l : List A4} {p : Nat}, p ≤ l.length → (∀ i x, i < p → l[i]? = some x → Op.bytesLess x.Key w.Key = true) → (∀ x, l[p]? = some x → Op.bytesLess x.Key w.Key = false) →
    ins l w = if (∃ x, l[p]? = some x ∧ x.Key = w.Key) then l.set p w else l.take p ++ w :: l.drop p
  | [], p, hp, _, _ => by simp at hp; subst hp; simp [ins]
  | x :: l, 0, _, _, h2 => by
    have h := h2 x rfl;unfold ins;rw [h];by_cases hk : x.Key = w.Key
    · rw [D4 D5, D1 hk, D1 ⟨x, rfl, hk⟩]; rfl
    · rw [D4 D5, D4 hk, D4 (fun ⟨y, hy, hyk⟩ => by simp at hy; subst hy; exact hk hyk)]; rfl
  | x :: l, p + 1, hp, h1, h2 => by
    have h := h1 0 x qz8 rfl;unfold ins;rw [D1 h, BV8 (l := l) (p := p) (by simpa using hp) (fun i y hi hy => h1 (i + 1) y qz8 Aw4) (fun y hy => h2 y Aw4)];simp only [BD0, Ar6, Al7, BD1];split <;> simp
def Aj4 (l : List A4) (w : A4) : List A4 := if Ao0 l w.Key = true then l.set (AP5 l w.Key) w else l.take (AP5 l w.Key) ++ w :: l.drop (AP5 l w.Key)
theorem bs_le {α : Type} (f : α → Int) (l : List α) : ∀ (d i j : Nat), j - i = d → i ≤ j → j ≤ l.length → bs f l i j ≤ j := by
  intro d;induction d using Nat.strongRecOn with
  | _ d ih =>
    intro i j hd hij hjl;by_cases h : i < j
    · obtain ⟨x, hx⟩ := Go.AV.B3 (show (i + j) / 2 < l.length by omega)
      by_cases hf : f x < 0
      · rw [bs_lo h hx hf]
        exact ih (j - ((i + j) / 2 + 1)) qz8 _ _ rfl qz8 hjl
      · rw [bs_hi h hx hf]
        exact L4 (ih ((i + j) / 2 - i) qz8 _ _ rfl qz8 qz8) qz8
    · rw [CP9 h]; exact hij
theorem Cf8 (l : List A4) (k : Str) : AP5 l k ≤ l.length := bs_le _ _ _ _ _ rfl (D6 _) (L5 _)
theorem Ap8 {l : List A4} {k : Str} : Ao0 l k = true ↔ ∃ x, l[AP5 l k]? = some x ∧ x.Key = k := by
  unfold Ao0 Bz6
  cases h : l[AP5 l k]? with
  | none => simp
  | some x => simp [Ba0, Bf9]
theorem putW_ins {l : List A4} (h : adj T1 l = true) (w : A4) : Aj4 l w = ins l w := by
  obtain ⟨h1, h2⟩ := CB6 h w.Key;rw [BV8 (Cf8 l w.Key) h1 h2];unfold Aj4;by_cases hw : Ao0 l w.Key = true
  · rw [D1 hw, D1 (Ap8.1 hw)]
  · rw [D4 hw, D4 (fun h => hw (Ap8.2 h))]
def AG8 (l : List A4) (k : Str) : Nat → Nat
  | 0 => 0
  | n + 1 => match l[n]? with
    | some x => if Op.bytesLess k x.Key = true then AG8 l k n else n + 1
    | none => n + 1
def Bz7 (l : List A4) (k : Str) : Nat → Bool
  | 0 => false
  | n + 1 => match l[n]? with
    | some x => x.Key == k
    | none => false
def AX6 (l : List A4) (w : A4) : List A4 :=
  if Bz7 l w.Key (AG8 l w.Key l.length) = true then l.set (AG8 l w.Key l.length - 1) w else l.take (AG8 l w.Key l.length) ++ w :: l.drop (AG8 l w.Key l.length)
theorem CQ2 (l : List A4) (k : Str) : ∀ n, AG8 l k n ≤ n
  | 0 => L5 _
  | n + 1 => by
    unfold AG8;split
    · split
      · exact Nat.le_succ_of_le (CQ2 l k n)
      · exact L5 _
    · exact L5 _
theorem Bo0 (l : List A4) (k : Str) : ∀ n, n ≤ l.length → (∀ i x, AG8 l k n ≤ i → i < n → l[i]? = some x → Op.bytesLess k x.Key = true) ∧ (∀ x, 0 < AG8 l k n → l[AG8 l k n - 1]? = some x → Op.bytesLess k x.Key = false)
  | 0, _ => ⟨fun i x h1 h2 => by omega, fun x h => by simp [AG8] at h⟩
  | n + 1, hn => by
    obtain ⟨x, hx⟩ := Go.AV.B3 (show n < l.length by omega);have ih := Bo0 l k n qz8;unfold AG8;simp only [hx];by_cases hb : Op.bytesLess k x.Key = true
    · rw [D1 hb]
      refine ⟨fun i y h1 h2 hy => ?_, ih.2⟩;rcases Nat.lt_or_ge i n with h3 | h3
      · exact ih.1 i y h1 h3 hy
      · have : i = n := by omega
        subst this;rw [hx] at hy; injection hy with hy; subst hy; exact hb
    · rw [D4 hb]
      refine ⟨fun i y h1 h2 hy => by omega, fun y _ hy => ?_⟩;rw [Nat.add_sub_cancel, hx] at hy; injection hy with hy; subst hy
      simpa using hb
theorem CB7 {l : List A4} (h : adj T1 l = true) (w : A4) : AX6 l w = ins l w := by
  obtain ⟨h1, h2⟩ := Bo0 l w.Key l.length (L5 _);have hle := CQ2 l w.Key l.length;unfold AX6;generalize AG8 l w.Key l.length = k at *
  cases k with
  | zero =>
    rw [D4 (by simp [Bz7]), BV8 (l := l) (p := 0) (D6 _) (fun i x h => by omega) (fun x hx => by
      have h3 := h1 0 x (L5 _) (F4.1 hx).1 hx
      cases hb : Op.bytesLess x.Key w.Key with
      | false => rfl
      | true => have := T8 h3 hb; rw [K7] at this; cases this)]
    rw [D4];intro ⟨x, hx, hk⟩;have h3 := h1 0 x (L5 _) (F4.1 hx).1 hx;rw [hk, K7] at h3; cases h3
  | succ n =>
    obtain ⟨x, hx⟩ := Go.AV.B3 (show n < l.length by omega);have h3 := h2 x qz8 AS0;have htri := X9 x.Key w.Key;by_cases hk : x.Key = w.Key
    · rw [D1 (by simp [Bz7, hx, hk]), Nat.add_sub_cancel]
      rw [BV8 (l := l) (p := n) qz8 (fun i y hi hy => by have := Ad5 AD8 h hi hy hx; unfold T1 at this; rw [hk] at this; exact this) (fun y hy => by rw [hx] at hy; injection hy with hy; subst hy; rw [hk, K7])];rw [D1 ⟨x, hx, hk⟩]
    · have hlt : Op.bytesLess x.Key w.Key = true := by rw [h3] at htri; cases hb : Op.bytesLess x.Key w.Key with | true => rfl | false => (rw [hb] at htri; simp at htri; exact absurd htri.symm hk)
      rw [D4 (by simp [Bz7, hx, hk])];have hno : ∀ y, l[n + 1]? = some y → Op.bytesLess w.Key y.Key = true := fun y hy => h1 (n + 1) y (L5 _) (F4.1 hy).1 hy;rw [BV8 (l := l) (p := n + 1) hle (fun i y hi hy => by
        rcases Nat.lt_or_ge i n with h4 | h4
        · have := Ad5 AD8 h h4 hy hx
          exact T8 this hlt
        · have : i = n := by omega
          subst this;rw [hx] at hy; injection hy with hy; subst hy; exact hlt) (fun y hy => by
        cases hb : Op.bytesLess y.Key w.Key with
        | false => rfl
        | true => have := T8 (hno y hy) hb; rw [K7] at this; cases this)]
      rw [D4];intro ⟨y, hy, hyk⟩;have := hno y hy;rw [hyk, K7] at this; cases this
theorem AW5 {α : Type} {p : α → α → Bool} (tr : ∀ a b c, p a b = true → p b c = true → p a c = true) : ∀ {l : List α}, adj p l = true ↔ l.Pairwise fun a b => p a b = true
  | [] => by simp [adj]
  | [x] => by simp [adj]
  | x :: y :: l => by
    rw [adj, F0, AW5 tr, AC7 (a := x)];constructor
    · intro ⟨h1, h2⟩
      refine ⟨fun z hz => ?_, h2⟩;rcases O5.1 hz with rfl | hz
      · exact h1
      · exact tr _ _ _ h1 (List.rel_of_pairwise_cons h2 hz)
    · intro ⟨h1, h2⟩
      exact ⟨h1 y W6, h2⟩
theorem Ck3 {l : List A4} (q : A4 → Bool) (h : adj T1 l = true) : adj T1 (l.filter q) = true :=
  (AW5 AD8).2 (((AW5 AD8).1 h).filter q)
theorem Az0 {w x : A4} : ∀ {l : List A4}, x ∈ ins l w → x = w ∨ x ∈ l
  | [], h => by simp [ins] at h; exact .inl h
  | y :: l, h => by
    unfold ins at h;split at h
    · rcases O5.1 h with rfl | h
      · exact .inr W6
      · exact (Az0 h).imp id (S7 _)
    · split at h
      · rcases O5.1 h with rfl | h
        · exact .inl rfl
        · exact .inr (S7 _ h)
      · rcases O5.1 h with rfl | h
        · exact .inl rfl
        · exact .inr h
theorem Ap9 {w : A4} : ∀ {l : List A4}, adj T1 l = true → adj T1 (ins l w) = true
  | [], _ => rfl
  | y :: l, h => by
    have hp := (AW5 AD8).1 h;refine (AW5 AD8).2 ?_;unfold ins;split
    · rename_i hlt
      have ih := (AW5 AD8).1 (Ap9 (w := w) (BO7 h));refine AC7.2 ⟨fun z hz => ?_, ih⟩;rcases Az0 hz with rfl | hz
      · exact hlt
      · exact List.rel_of_pairwise_cons hp hz
    · rename_i hnlt
      split
      · rename_i hk
        refine AC7.2 ⟨fun z hz => ?_, (AC7.1 hp).2⟩;have := List.rel_of_pairwise_cons hp hz;unfold T1 at this ⊢;rw [← hk]; exact this
      · rename_i hk
        have hgt : Op.bytesLess w.Key y.Key = true := by
          have := X9 y.Key w.Key
          cases hb : Op.bytesLess w.Key y.Key with
          | true => rfl
          | false => rw [hb] at this; simp at hnlt; rw [hnlt] at this; simp at this; exact absurd this.symm hk
        refine AC7.2 ⟨fun z hz => ?_, hp⟩;rcases O5.1 hz with rfl | hz
        · exact hgt
        · exact T8 hgt (List.rel_of_pairwise_cons hp hz)
theorem BJ3 {w : A4} : ∀ {l : List A4}, l.length ≤ (ins l w).length ∧ (ins l w).length ≤ l.length + 1
  | [] => by simp [ins]
  | y :: l => by
    unfold ins;have ih := BJ3 (w := w) (l := l);split
    · simp; omega
    · split <;> simp
theorem Bc6 (a b : Str) : (!(Op.bytesLess a b || a == b)) = Op.bytesLess b a := by
  have h := X9 a b
  cases h1 : Op.bytesLess a b
  · cases h2 : Op.bytesLess b a
    · rw [h1, h2] at h; simp at h; simp [h]
    · simp; intro hc; subst hc; rw [K7] at h2; cases h2
  · simp; cases h2 : Op.bytesLess b a with
    | false => rfl
    | true => have := T8 h1 h2; rw [K7] at this; cases this
theorem Ck4 {l : List A4} {k : Str} {n : Nat} {x : A4} (hx : l[n]? = some x) (h : Op.bytesLess k x.Key = true) : AG8 l k (n + 1) = AG8 l k n := by
  conv => lhs; unfold AG8
  simp only [hx, h, if_true]
theorem Ck5 {l : List A4} {k : Str} {n : Nat} {x : A4} (hx : l[n]? = some x) (h : Op.bytesLess k x.Key = false) : AG8 l k (n + 1) = n + 1 := by
  unfold AG8;simp only [hx, h, Bool.false_eq_true, if_false]
def Aq8 (l ws : List A4) : List A4 := ws.foldl ins l
theorem CQ3 : ∀ {ws l : List A4}, adj T1 l = true → adj T1 (Aq8 l ws) = true
  | [], _, h => h
  | w :: ws, l, h => CQ3 (ws := ws) (Ap9 h)
theorem BO8 {x : A4} : ∀ {ws l : List A4}, x ∈ Aq8 l ws → x ∈ ws ∨ x ∈ l
  | [], _, h => .inr h
  | w :: ws, l, h => by
    rcases BO8 (ws := ws) (l := ins l w) h with h | h
    · exact .inl (S7 _ h)
    · rcases Az0 h with rfl | h
      · exact .inl W6
      · exact .inr h
theorem Bj6 : ∀ {ws l : List A4}, (Aq8 l ws).length ≤ l.length + ws.length
  | [], l => by simp [Aq8]
  | w :: ws, l => by
    have h1 := Bj6 (ws := ws) (l := ins l w);have h2 := (BJ3 (w := w) (l := l)).2;show (Aq8 (ins l w) ws).length ≤ _
    simp only [H1]; omega
def Ao1 (l ws : List A4) : List A4 := ws.foldl Aj4 l
def AL4 (l ws : List A4) : List A4 := ws.foldl AX6 l
theorem CQ4 : ∀ {ws l : List A4}, adj T1 l = true → Ao1 l ws = Aq8 l ws
  | [], _, _ => rfl
  | w :: ws, l, h => by
    show Ao1 (Aj4 l w) ws = Aq8 (ins l w) ws
    rw [putW_ins h, CQ4 (Ap9 h)]
theorem BV9 : ∀ {ws l : List A4}, adj T1 l = true → AL4 l ws = Aq8 l ws
  | [], _, _ => rfl
  | w :: ws, l, h => by
    show AL4 (AX6 l w) ws = Aq8 (ins l w) ws
    rw [CB7 h, BV9 (Ap9 h)]
theorem Cs0 (l : List A4) (w : A4) : (AX6 l w).length ≤ l.length + 1 := by
  unfold AX6; split
  · simp
  · simp; omega
theorem putW_len (l : List A4) (w : A4) : (Aj4 l w).length ≤ l.length + 1 := by
  unfold Aj4; split
  · simp
  · simp; omega
theorem BW0 : ∀ (ws l : List A4), (AL4 l ws).length ≤ l.length + ws.length
  | [], l => by simp [AL4]
  | w :: ws, l => by
    have h1 := BW0 ws (AX6 l w);have h2 := Cs0 l w;show (AL4 (AX6 l w) ws).length ≤ _
    simp only [H1]; omega
theorem Bj7 : ∀ (ws l : List A4), (Ao1 l ws).length ≤ l.length + ws.length
  | [], l => by simp [Ao1]
  | w :: ws, l => by
    have h1 := Bj7 ws (Aj4 l w);have h2 := putW_len l w;show (Ao1 (Aj4 l w) ws).length ≤ _
    simp only [H1]; omega
theorem Cs1 (l ws : List A4) (w : A4) : Ao1 l (ws ++ [w]) = Aj4 (Ao1 l ws) w := by unfold Ao1; rw [List.foldl_append]; rfl
theorem Ck6 (l ws : List A4) (w : A4) : AL4 l (ws ++ [w]) = AX6 (AL4 l ws) w := by unfold AL4; rw [List.foldl_append]; rfl
def Ag6 (l : List A4) : List A4 := l.filter fun w => !w.Gone
def AZ3 (rows ws : List A4) : List A4 × Bool := if (24 : Int) < ((Ag6 (Ao1 rows ws)).length : Int) then ([], false) else (Ag6 (Ao1 rows ws), true)
theorem l5_mk {l : List A4} (h1 : adj T1 l = true) (h2 : ∀ w ∈ l, w.Gone = false ∧ AM8 w = true) : BL0 l = decide ((l.length : Int) ≤ 24) := by
  unfold BL0 AG7;have h3 : (l.all fun w => !w.Gone) = true := l8.2 fun w hw => by simp [(h2 w hw).1]
  have h4 : l.all AM8 = true := l8.2 fun w hw => (h2 w hw).2;rw [h1, h3, h4]; simp
def BC3 (a b : Int) : Int := if a < b then a else b
theorem BW1 (a b : Str) : Op.bytesLess a b = true ∨ a = b ∨ Op.bytesLess b a = true := by
  have h := X9 a b
  cases h1 : Op.bytesLess a b
  · cases h2 : Op.bytesLess b a
    · rw [h1, h2] at h; simp at h; exact .inr (.inl h.symm)
    · exact .inr (.inr rfl)
  · exact .inl rfl
def AO2 (l : List Str) : Prop := l.Pairwise fun a b => Op.bytesLess a b = true
theorem CQ5 : ∀ {a b : List Str}, AO2 a → AO2 b → (∀ x, x ∈ a ↔ x ∈ b) → a = b
  | [], [], _, _, _ => rfl
  | [], y :: b, _, _, h => by have := (h y).2 W6; cases this
  | x :: a, [], _, _, h => by have := (h x).1 W6; cases this
  | x :: a, y :: b, ha, hb, h => by
    obtain ⟨a1, a2⟩ := AC7.1 ha;obtain ⟨b1, b2⟩ := AC7.1 hb;have asym : ∀ {u v : Str}, Op.bytesLess u v = true → Op.bytesLess v u = true → False := fun h k => by
      have := T8 h k; rw [K7] at this; cases this
    have e : x = y := by
      rcases O5.1 ((h x).1 W6) with e | e
      · exact e
      · rcases O5.1 ((h y).2 W6) with f | f
        · exact f.symm
        · exact (asym (b1 x e) (a1 y f)).elim
    subst e;rw [CQ5 a2 b2 fun z => ?_];constructor
    · intro hz
      rcases O5.1 ((h z).1 (S7 _ hz)) with e | e
      · subst e; have := a1 z hz; rw [K7] at this; cases this
      · exact e
    · intro hz
      rcases O5.1 ((h z).2 (S7 _ hz)) with e | e
      · subst e; have := b1 z hz; rw [K7] at this; cases this
      · exact e
def Bd8 (l : List Str) : List Str := l.mergeSort fun x y => decide (x ≤ y)
theorem le_less (x y : Str) : decide (x ≤ y) = !Op.bytesLess y x := by
  rw [Go.Proofs.bytesLess_eq];by_cases h : y < x
  · simp [h, List.not_le.2 h]
  · simp [h, List.not_lt.1 h]
theorem Cs2 (l : List Str) (z : Str) : z ∈ Bd8 l ↔ z ∈ l := (List.mergeSort_perm l _).mem_iff
theorem Cs3 (l : List Str) : (Bd8 l).length = l.length := List.length_mergeSort l
theorem Ck7 (l : List Str) : (Bd8 l).Pairwise fun a b => Op.bytesLess b a = false := by
  have h := List.pairwise_mergeSort (le := fun x y : Str => decide (x ≤ y)) (fun a b c h1 h2 => by
    simp only [I4] at *; exact List.le_trans h1 h2) (fun a b => by
    simp only [AD7, I4]; exact List.le_total a b) l
  refine h.imp fun {a b} hab => ?_;rw [le_less] at hab;simpa using hab
theorem BE3 {l : List Str} {z : Str} : ∀ {n : Nat}, z ∈ Aw3 l n ↔ ∃ i, i < n ∧ l[i]? = some z
  | 0 => by constructor
            · intro h; cases h
            · rintro ⟨i, h, _⟩; omega
  | n + 1 => by
    show z ∈ (if n ≠ 0 ∧ l[n]? = l[n - 1]? then Aw3 l n else Aw3 l n ++ (l[n]?).toList) ↔ _
    split
    · rename_i h
      rw [BE3];constructor
      · exact fun ⟨i, h1, h2⟩ => ⟨i, by omega, h2⟩
      · intro ⟨i, h1, h2⟩
        by_cases e : i = n
        · subst e; exact ⟨i - 1, by omega, h.2 ▸ h2⟩
        · exact ⟨i, by omega, h2⟩
    · rw [Z7, BE3, Option.mem_toList]
      constructor
      · rintro (⟨i, h1, h2⟩ | h)
        · exact ⟨i, by omega, h2⟩
        · exact ⟨n, by omega, h⟩
      · intro ⟨i, h1, h2⟩
        by_cases e : i = n
        · subst e; exact .inr h2
        · exact .inl ⟨i, by omega, h2⟩
theorem Cs4 (l : List Str) (z : Str) : z ∈ cmpL l ↔ z ∈ l := by
  unfold cmpL;rw [BE3];constructor
  · exact fun ⟨i, _, h⟩ => C3 h
  · intro h
    obtain ⟨i, hi⟩ := j4 h;exact ⟨i, (F4.1 hi).1, hi⟩
theorem Bj8 {l : List Str} (hs : l.Pairwise fun a b => Op.bytesLess b a = false) {i j : Nat} {x y : Str} (hij : i < j) (hx : l[i]? = some x) (hy : l[j]? = some y) : Op.bytesLess y x = false := by
  obtain ⟨h1, e1⟩ := F4.1 hx;obtain ⟨h2, e2⟩ := F4.1 hy;have := List.pairwise_iff_getElem.1 hs i j h1 h2 hij;rw [e1, e2] at this; exact this
theorem CB8 {l : List Str} (hs : l.Pairwise fun a b => Op.bytesLess b a = false) : ∀ {n : Nat}, n ≤ l.length → AO2 (Aw3 l n)
  | 0, _ => List.Pairwise.nil
  | n + 1, hn => by
    have ih := CB8 hs (n := n) qz8;show AO2 (if n ≠ 0 ∧ l[n]? = l[n - 1]? then Aw3 l n else Aw3 l n ++ (l[n]?).toList)
    split
    · exact ih
    · rename_i h
      obtain ⟨x, hx⟩ := B3 (show n < l.length by omega);rw [hx];refine List.pairwise_append.2 ⟨ih, List.pairwise_singleton _ _, fun z hz w hw => ?_⟩;simp at hw; subst hw;obtain ⟨i, hi, hzi⟩ := BE3.1 hz;have h1 := Bj8 hs hi hzi hx;rcases BW1 z w with e | e | e
      · exact e
      · exfalso
        subst e;apply h
        refine ⟨by omega, ?_⟩;by_cases f : i = n - 1
        · rw [hx, ← f, hzi]
        · obtain ⟨v, hv⟩ := B3 (show n - 1 < l.length by omega)
          have h3 := Bj8 hs (show n - 1 < n by omega) hv hx;have h4 := Bj8 hs (show i < n - 1 by omega) hzi hv;rw [hx, hv];rcases BW1 z v with g | g | g
          · rw [g] at h3; cases h3
          · rw [g]
          · rw [g] at h4; cases h4
      · rw [h1] at e; cases e
def Ai2 (l : List Str) : List Str := cmpL (Bd8 l)
theorem CB9 (l : List Str) : AO2 (Ai2 l) := CB8 (Ck7 l) (L5 _)
theorem BE4 (l : List Str) (z : Str) : z ∈ Ai2 l ↔ z ∈ l := by unfold Ai2; rw [Cs4, Cs2]
theorem BE5 (l : List Str) : (Ai2 l).length ≤ l.length := by
  have := CQ1 (Bd8 l) (Bd8 l).length;unfold Ai2 cmpL; rw [Cs3] at this ⊢; exact this
def AA6 : List Str → Str → List Str
  | [], s => [s]
  | y :: l, s => if Op.bytesLess s y = true then s :: y :: l else if y = s then y :: l else y :: AA6 l s
theorem BB0 {s : Str} : ∀ {l : List Str}, AO2 l → AO2 (AA6 l s) ∧ ∀ z, z ∈ AA6 l s ↔ z ∈ l ∨ z = s
  | [], _ => ⟨by unfold AO2 AA6; simp, fun z => by simp [AA6]⟩
  | y :: l, h => by
    obtain ⟨h1, h2⟩ := AC7.1 h;unfold AA6;split
    · rename_i hs
      refine ⟨AC7.2 ⟨fun z hz => ?_, h⟩, fun z => ?_⟩
      · rcases O5.1 hz with rfl | hz
        · exact hs
        · exact T8 hs (h1 z hz)
      · rw [O5, or_comm]
    · rename_i hs
      split
      · rename_i e
        subst e;refine ⟨h, fun z => ⟨.inl, ?_⟩⟩
        rintro (hz | rfl)
        · exact hz
        · exact W6
      · rename_i e
        obtain ⟨i1, i2⟩ := BB0 (s := s) h2;have hys : Op.bytesLess y s = true := by
          rcases BW1 y s with g | g | g
          · exact g
          · exact absurd g e
          · exact absurd g hs
        refine ⟨AC7.2 ⟨fun z hz => ?_, i1⟩, fun z => ?_⟩
        · rcases (i2 z).1 hz with hz | rfl
          · exact h1 z hz
          · exact hys
        · rw [O5, i2, O5, or_assoc]
theorem BO9 (s : Str) : ∀ l : List Str, (AA6 l s).length ≤ l.length + 1
  | [] => L5 _
  | y :: l => by
    have := BO9 s l;unfold AA6;split
    · exact L5 _
    · split
      · exact Nat.le_succ _
      · rw [H1, H1]; omega
def AB0 (l : List Str) (o : List Str) : List Str := l.foldl AA6 o
theorem AY7 : ∀ {l o : List Str}, AO2 o → AO2 (AB0 l o) ∧ ∀ z, z ∈ AB0 l o ↔ z ∈ o ∨ z ∈ l
  | [], o, h => ⟨h, fun z => by simp [AB0]⟩
  | s :: l, o, h => by
    obtain ⟨h1, h2⟩ := BB0 (s := s) h;obtain ⟨i1, i2⟩ := AY7 (l := l) h1;refine ⟨i1, fun z => ?_⟩;show z ∈ AB0 l (AA6 o s) ↔ _
    rw [i2, h2, O5, or_assoc]
theorem CC0 (l : List Str) : Ai2 l = AB0 l [] := by
  obtain ⟨h1, h2⟩ := AY7 (l := l) (o := []) List.Pairwise.nil;exact CQ5 (CB9 l) h1 fun z => by rw [BE4, h2]; simp
theorem CC1 {s : Str} : ∀ {l : List Str} {k : Nat}, AO2 l → k ≤ l.length → (∀ i y, k ≤ i → l[i]? = some y → Op.bytesLess s y = true) → (∀ y, 0 < k → l[k - 1]? = some y → Op.bytesLess s y = false ∧ y ≠ s) → AA6 l s = l.take k ++ s :: l.drop k
  | [], k, _, hk, _, _ => by have : k = 0 := by simpa using hk
                             subst this; rfl
  | y :: l, 0, _, _, h, _ => by
    unfold AA6;rw [D1 (h 0 y (L5 _) rfl)]; rfl
  | y :: l, k + 1, hs, hk, h, g => by
    obtain ⟨h1, h2⟩ := AC7.1 hs;have hy : Op.bytesLess s y = false ∧ y ≠ s := by
      cases k with
      | zero => exact g y qz8 rfl
      | succ k =>
        obtain ⟨z, hz⟩ := B3 (show k < l.length by simp at hk; omega);have hgz := g z qz8 (by simpa using hz);have hyz := h1 z (C3 hz);refine ⟨?_, fun e => ?_⟩
        · cases e : Op.bytesLess s y with
          | false => rfl
          | true => have := T8 e hyz; rw [hgz.1] at this; cases this
        · subst e; rw [hyz] at hgz; cases hgz.1
    unfold AA6;rw [D4 (by rw [hy.1]; decide), D4 hy.2, CC1 h2 (by simpa using hk) (fun i z hi hz => h (i + 1) z qz8 (by simpa using hz)) (fun z hz hz2 => g z qz8 (by
      cases k with
      | zero => omega
      | succ k => simpa using hz2))]
    rfl
theorem Bo1 {s : Str} : ∀ {l : List Str} {k : Nat}, AO2 l → l[k]? = some s → AA6 l s = l
  | y :: l, 0, hs, h => by
    simp at h; subst h;unfold AA6;rw [D4 (by rw [K7]; decide), D1 rfl]
  | y :: l, k + 1, hs, h => by
    obtain ⟨h1, h2⟩ := AC7.1 hs;have h3 : l[k]? = some s := by simpa using h
    have hy := h1 s (C3 h3);unfold AA6;rw [D4 (fun e => by have := T8 e hy; rw [K7] at this; cases this), D4 (fun e => by rw [e, K7] at hy; cases hy), Bo1 h2 h3]
  | [], k, hs, h => by simp at h
theorem Am4 (l o : List Str) (s : Str) : AB0 (l ++ [s]) o = AA6 (AB0 l o) s := by
  unfold AB0; rw [List.foldl_append]; rfl
theorem Af9 : ∀ (l o : List Str), (AB0 l o).length ≤ o.length + l.length
  | [], o => L5 _
  | s :: l, o => by
    have h1 := Af9 l (AA6 o s);have h2 := BO9 s o;show (AB0 l (AA6 o s)).length ≤ _
    rw [H1]; omega
def AC1 (t : Int) : Bool := within t 0 100000
def Az3 (v : Y3) : Bool := AU5 v.Time && AI7 v.Val v.Gone
def Ae9 (a b : Y3) : Bool := decide (a.Time < b.Time)
def Ba1 (c : C4) : Bool := (c.Vers.all Az3 && adj Ae9 c.Vers) && within c.Vers.length 1 16
def AF7 (l : List C4) : List Str := l.map C4.Key
def AK8 (l : List C4) : Bool := l.all Ba1 && (decide ((l.length : Int) ≤ 24) && n7 (AF7 l))
def AX7 (k : Str) (v : Y3) : Bool := within v.Time 1 100000 && Ae8 k v.Val v.Gone
def Ac7 (c : C4) : Bool := (c.Vers.all (AX7 c.Key) && adj Ae9 c.Vers) && (m7 c.Key && within c.Vers.length 1 16)
def u5 (a b : C4) : Bool := Op.bytesLess a.Key b.Key
def Ao2 (l : List C4) : Bool := (l.all Ac7 && adj u5 l) && decide ((l.length : Int) ≤ 24)
theorem Bw5 (c : C4) : (Ba1 c && r7 c.Key) = Ac7 c := by
  unfold Ba1 Ac7;rw [AW4, AP2];simp only [F0, l8];have key : ∀ v : Y3, m7 c.Key = true → (Az3 v = true ↔ AX7 c.Key v = true) := fun v hk => by
    unfold Az3 AX7 AU5 Ae8;rw [BG7, hk, Bool.true_and]
  constructor
  · rintro ⟨⟨⟨h1, h2⟩, h3⟩, h4⟩
    exact ⟨⟨fun v hv => (key v h4).1 (h1 v hv), h2⟩, h4, h3⟩
  · rintro ⟨⟨h1, h2⟩, h4, h3⟩
    exact ⟨⟨⟨fun v hv => (key v h4).2 (h1 v hv), h2⟩, h3⟩, h4⟩
theorem AG4 (l : List C4) : AK8 l = Ao2 l := by
  unfold AK8 Ao2 n7 AF7;rw [Bc4, AP2];simp only [F0, l8, n8, forall_exists_index, and_imp, forall_apply_eq_imp_iff₂];constructor
  · rintro ⟨h1, h2, h3, h4⟩
    exact ⟨⟨fun c hc => by rw [← Bw5, h1 c hc, h3 c hc]; rfl, h4⟩, h2⟩
  · rintro ⟨⟨h1, h4⟩, h2⟩
    have h5 : ∀ c ∈ l, Ba1 c = true ∧ r7 c.Key = true := fun c hc => by
      have := h1 c hc;rw [← Bw5] at this;simpa using this
    exact ⟨fun c hc => (h5 c hc).1, h2, fun c hc => (h5 c hc).2, h4⟩
theorem AG5 {l : List C4} (h : AK8 l = true) : l.length ≤ 24 ∧ adj u5 l = true ∧ ∀ c ∈ l, r7 c.Key = true ∧ 1 ≤ c.Vers.length ∧ c.Vers.length ≤ 16 ∧ adj Ae9 c.Vers = true ∧ ∀ v ∈ c.Vers, Az3 v = true := by
  rw [AG4] at h;unfold Ao2 at h;simp only [F0, l8, I4] at h;refine ⟨by omega, h.1.2, fun c hc => ?_⟩;have hcell := h.1.1 c hc;rw [← Bw5] at hcell;simp only [F0] at hcell;obtain ⟨h1, h2⟩ := hcell;unfold Ba1 at h1;simp only [F0, l8] at h1;have h3 := h1.2;unfold within at h3
  simp at h3;exact ⟨h2, by omega, by omega, h1.1.2, h1.1.1⟩
theorem Ag0 (a b c : C4) (h : u5 a b = true) (k : u5 b c = true) : u5 a c = true := T8 h k
def Z9 (l : List C4) (k : Str) : Option C4 := l.find? fun c => c.Key == k
theorem Cs5 {l : List C4} (ha : adj u5 l = true) {i j : Nat} {a b : C4} (hi : l[i]? = some a) (hj : l[j]? = some b) (hk : a.Key = b.Key) : i = j := by
  rcases Nat.lt_trichotomy i j with hlt | heq | hgt
  · have h9 := Ad5 Ag0 ha hlt hi hj
    unfold u5 at h9; rw [hk, K7] at h9; cases h9
  · exact heq
  · have h9 := Ad5 Ag0 ha hgt hj hi
    unfold u5 at h9; rw [hk, K7] at h9; cases h9
theorem findC_at {l : List C4} (ha : adj u5 l = true) {i : Nat} {c : C4} (hc : l[i]? = some c) : Z9 l c.Key = some c := by
  unfold Z9
  cases hf : l.find? (fun x => x.Key == c.Key) with
  | none => have := List.find?_eq_none.1 hf c (C3 hc); simp at this
  | some d =>
    have h1 := List.find?_some hf;obtain ⟨j, hj⟩ := j4 (An5 hf);have := Cs5 ha hj hc (by simpa using h1);subst this;rw [hc] at hj; exact hj.symm
def atC (l : List C4) (k : Str) : Int := match l.findIdx? (fun c => c.Key == k) with
  | some i => (i : Int)
  | none => -1
theorem atC_some {l : List C4} {k : Str} {i : Nat} {x : C4} (hx : l[i]? = some x) (hk : x.Key = k) (h : ∀ j y, j < i → l[j]? = some y → y.Key ≠ k) : atC l k = (i : Int) := by
  have hl := (F4.1 hx);have : l.findIdx? (fun c => c.Key == k) = some i := by
    rw [List.findIdx?_eq_some_iff_getElem];refine ⟨hl.1, by rw [hl.2]; simp [hk], fun j hj => ?_⟩;have hl1 := hl.1;simpa using h j _ hj (O1 (show j < l.length by omega))
  unfold atC; rw [this]
theorem atC_none {l : List C4} {k : Str} (h : ∀ (j : Nat) (y : C4), l[j]? = some y → y.Key ≠ k) : atC l k = -1 := by
  have : l.findIdx? (fun c => c.Key == k) = none := by
    rw [List.findIdx?_eq_none_iff];intro x hx;obtain ⟨j, hj⟩ := j4 hx;simpa using h j x hj
  unfold atC; rw [this]
theorem Bw6 {l : List C4} {k : Str} (h : atC l k < 0) : Z9 l k = none := by
  unfold atC at h
  cases hf : l.findIdx? (fun c => c.Key == k) with
  | some i => rw [hf] at h; simp at h; omega
  | none =>
    rw [List.findIdx?_eq_none_iff] at hf;unfold Z9;rw [List.find?_eq_none];intro c hc; simp [hf c hc]
theorem Bw7 {l : List C4} {k : Str} (h : ¬ atC l k < 0) : ∃ (p : Nat) (c : C4), atC l k = (p : Int) ∧ l[p]? = some c ∧ Z9 l k = some c := by
  cases hf : l.findIdx? (fun c => c.Key == k) with
  | none => exfalso; unfold atC at h; rw [hf] at h; exact h D5
  | some i =>
    have he : atC l k = (i : Int) := by unfold atC; rw [hf]
    rw [List.findIdx?_eq_some_iff_getElem] at hf;obtain ⟨h1, h2, h3⟩ := hf;refine ⟨i, l[i], he, O1 h1, ?_⟩;unfold Z9;rw [List.find?_eq_some_iff_getElem];exact ⟨h2, i, h1, rfl, fun j hj => by simpa using h3 j hj⟩
def CM1 (c : C4) : Int := match c.Vers.getLast? with
  | some v => v.Time
  | none => 0
def O3 (l : List C4) (k : Str) : Int := match Z9 l k with
  | some c => CM1 c
  | none => 0
def Aq9 (c : C4) (t : Int) : Str × Bool := match c.Vers.reverse.find? (fun v => decide (v.Time ≤ t)) with
  | some v => (v.Val, !v.Gone)
  | none => ([], false)
def cellAt (l : List C4) (k : Str) (t : Int) : Str × Bool := match Z9 l k with
  | some c => Aq9 c t
  | none => ([], false)
def Ci7 (l : List C4) (t : Int) : List A4 := l.filterMap fun c => if (Aq9 c t).2 = true then some ⟨c.Key, (Aq9 c t).1, false⟩ else none
def AI8 : List C4 → Str → Y3 → List C4
  | [], k, v => [⟨k, [v]⟩]
  | c :: l, k, v => if Op.bytesLess c.Key k = true then c :: AI8 l k v else if c.Key = k then ⟨k, c.Vers ++ [v]⟩ :: l else ⟨k, [v]⟩ :: c :: l
theorem Bw8 {k : Str} {v : Y3} : ∀ {l : List C4} {p : Nat}, p ≤ l.length → (∀ i x, i < p → l[i]? = some x → Op.bytesLess x.Key k = true) → (∀ x, l[p]? = some x → Op.bytesLess x.Key k = false) →
    (∀ x, l[p]? = some x → x.Key = k → AI8 l k v = l.set p ⟨k, x.Vers ++ [v]⟩) ∧ ((∀ x, l[p]? = some x → x.Key ≠ k) → AI8 l k v = l.take p ++ ⟨k, [v]⟩ :: l.drop p)
  | [], p, hp, _, _ => by simp at hp; subst hp; exact ⟨fun x hx => by simp at hx, fun _ => rfl⟩
  | c :: l, 0, _, _, h2 => by
    have h := h2 c rfl;unfold AI8;rw [h, D4 D5];refine ⟨fun x hx hk => ?_, fun hn => ?_⟩
    · simp at hx; subst hx; rw [D1 hk]; rfl
    · rw [D4 (hn c rfl)]; rfl
  | c :: l, p + 1, hp, h1, h2 => by
    have h := h1 0 c qz8 rfl;obtain ⟨i1, i2⟩ := Bw8 (k := k) (v := v) (l := l) (p := p) (by simpa using hp) (fun i y hi hy => h1 (i + 1) y qz8 Aw4) (fun y hy => h2 y Aw4);unfold AI8;rw [D1 h];refine ⟨fun x hx hk => ?_, fun hn => ?_⟩
    · rw [i1 x AS0 hk]; rfl
    · rw [i2 fun x hx => hn x AS0]; rfl
def AM9 (l : List C4) (x : A4) (t : Int) : List C4 := AI8 l x.Key ⟨t, x.Val, x.Gone⟩
def j9 (l : List C4) : List A4 → Int → Option (List C4)
  | [], _ => some l
  | x :: w, t => if decide (t ≤ O3 l x.Key) = true then none else j9 (AM9 l x t) w t
def AU6 (l : List C4) : Prop := adj u5 l = true ∧ ∀ c ∈ l, 1 ≤ c.Vers.length
theorem Ab6 {l : List C4} (h : AK8 l = true) : AU6 l := ⟨(AG5 h).2.1, fun c hc => ((AG5 h).2.2 c hc).2.1⟩
def AS6 (l : List C4) (w : List A4) (t : Int) : List C4 × Bool := match j9 l w t with
  | none => ([], false)
  | some out => (out, Ao2 out)
def C4.ocs (c : C4) (x : Value) : List AV := [AV.str c.Key, AV.is x]
theorem Cs6 (d : C4) : ∀ (l : List C4) (k : Str) (v : Y3), ∃ c r, AI8 (d :: l) k v = c :: r ∧ (c.Key = d.Key ∨ c.Key = k) := fun l k v => by
  unfold AI8;split
  · exact ⟨_, _, rfl, Or.inl rfl⟩
  · split
    · exact ⟨_, _, rfl, Or.inr rfl⟩
    · exact ⟨_, _, rfl, Or.inr rfl⟩
theorem Ak6 {α : Type} {p : α → α → Bool} {x y : α} {l : List α} : adj p (x :: y :: l) = (p x y && adj p (y :: l)) := rfl
theorem Bj9 (k : Str) (v : Y3) : ∀ {l : List C4}, adj u5 l = true → adj u5 (AI8 l k v) = true
  | [], _ => rfl
  | [c], _ => by
    unfold AI8;by_cases h1 : Op.bytesLess c.Key k = true
    · rw [D1 h1]; unfold AI8; simpa [adj, u5] using h1
    · rw [D4 h1]
      by_cases h2 : c.Key = k
      · rw [D1 h2]; rfl
      · rw [D4 h2]
        have := X9 k c.Key;simp [adj, u5]
        simp_all
  | c :: d :: l, h => by
    rw [Ak6, F0] at h;have ih := Bj9 k v (l := d :: l) h.2;unfold AI8;by_cases h1 : Op.bytesLess c.Key k = true
    · rw [D1 h1]
      obtain ⟨e, r, he, hk⟩ := Cs6 d l k v;rw [he] at ih ⊢;rw [Ak6, ih, Bool.and_true];have h3 := h.1;unfold u5 at *;rcases hk with hk | hk
      · rw [hk]; exact h3
      · rw [hk]; exact h1
    · rw [D4 h1]
      by_cases h2 : c.Key = k
      · rw [D1 h2, Ak6, h.2, Bool.and_true]
        have h3 := h.1;unfold u5 at *;rw [← h2]; exact h3
      · rw [D4 h2, Ak6, Ak6, h.1, h.2, Bool.and_true, Bool.and_true]
        have := X9 k c.Key;unfold u5
        simp_all
theorem CC2 (k : Str) (v : Y3) : ∀ {l : List C4}, (∀ c ∈ l, 1 ≤ c.Vers.length) → ∀ c ∈ AI8 l k v, 1 ≤ c.Vers.length
  | [], _, c, hc => by unfold AI8 at hc; simp at hc; subst hc; simp
  | d :: l, h, c, hc => by
    have hd := h d W6;have hl := fun c hc => h c (S7 _ hc);unfold AI8 at hc;split at hc
    · rcases O5.1 hc with e | e
      · subst e; exact hd
      · exact CC2 k v hl c e
    · split at hc
      · rcases O5.1 hc with e | e
        · subst e; simp
        · exact hl c e
      · rcases O5.1 hc with e | e
        · subst e; simp
        · exact h c e
theorem Ag1 {l : List C4} (h : AU6 l) (k : Str) (v : Y3) : AU6 (AI8 l k v) := ⟨Bj9 k v h.1, CC2 k v h.2⟩
theorem U5 {α : Type} {f : α → Nat} {x : α} {l : List α} : D2 f (x :: l) = 1 + f x + D2 f l := by unfold D2; simp; omega
theorem Am5 {α : Type} {f : α → Nat} {l r : List α} : D2 f (l ++ r) = D2 f l + D2 f r := by unfold D2; simp; omega
theorem CC3 (k : Str) (v : Y3) : ∀ {l : List C4}, D2 C4.size (AI8 l k v) ≤ D2 C4.size l + (2 + k.length + v.Val.length)
  | [] => by unfold AI8; simp only [U5, C4.size, Y3.size]; unfold D2; simp; omega
  | d :: l => by
    have ih := CC3 k v (l := l);unfold AI8;split
    · simp only [U5]; omega
    · split
      · rename_i h; subst h
        simp only [U5, C4.size, Am5, Y3.size]; unfold D2; simp; omega
      · simp only [U5, C4.size, Y3.size]; unfold D2; simp; omega
theorem Am6 (l : List C4) (x : A4) (t : Int) : D2 C4.size (AM9 l x t) ≤ D2 C4.size l + (2 + x.size) := by
  unfold AM9 A4.size;have := CC3 x.Key ⟨t, x.Val, x.Gone⟩ (l := l);simp only at this; omega
theorem CH7 {l : List C4} {k : Str} (h : ∀ c ∈ l, c.Key ≠ k) : O3 l k = 0 := by
  have : Z9 l k = none := by
    unfold Z9; rw [List.find?_eq_none]; intro c hc; simpa using h c hc
  unfold O3; rw [this]
theorem scan_has {l : List C4} {k : Str} {q : Nat} {c : C4} (ha : adj u5 l = true) (hc : l[q]? = some c) (hk : c.Key = k) (v : Y3) : AI8 l k v = l.set q ⟨k, c.Vers ++ [v]⟩ := by
  have hq := (F4.1 hc).1;refine (Bw8 (k := k) (v := v) (l := l) (p := q) qz8 (fun i x hi hx => ?_) (fun x hx => ?_)).1 c hc hk
  · have := Ad5 Ag0 ha hi hx hc
    unfold u5 at this; rw [hk] at this; exact this
  · rw [hc] at hx; injection hx with hx; subst hx; rw [hk]; exact K7 _
theorem scan_new {l : List C4} {k : Str} {q : Nat} (ha : adj u5 l = true) (hq : q ≤ l.length) (h1 : ∀ j x, q ≤ j → l[j]? = some x → Op.bytesLess k x.Key = true) (h2 : ∀ x, 0 < q → l[q - 1]? = some x → Op.bytesLess x.Key k = true) (v : Y3) : (AI8 l k v = l.take q ++ ⟨k, [v]⟩ :: l.drop q) ∧ O3 l k = 0 := by
  have hlo : ∀ i x, i < q → l[i]? = some x → Op.bytesLess x.Key k = true := fun i x hi hx => by
    obtain ⟨y, hy⟩ := Go.AV.B3 (show q - 1 < l.length by omega);have h3 := h2 y qz8 hy;rcases Nat.lt_or_ge i (q - 1) with hlt | hge
    · have := Ad5 Ag0 ha hlt hx hy
      exact T8 this h3
    · have : i = q - 1 := by omega
      subst this; rw [hx] at hy; injection hy with hy; subst hy; exact h3
  have hhi : ∀ x, l[q]? = some x → Op.bytesLess x.Key k = false := fun x hx => by
    have := h1 q x (L5 _) hx;have h3 := X9 x.Key k;rw [this] at h3; simpa using h3
  refine ⟨(Bw8 (k := k) (v := v) hq hlo hhi).2 fun x hx hk => ?_, CH7 fun c hc hk => ?_⟩
  · have := h1 q x (L5 _) hx
    rw [hk, K7] at this; cases this
  · obtain ⟨i, hi⟩ := j4 hc
    rcases Nat.lt_or_ge i q with hlt | hge
    · have := hlo i c hlt hi
      rw [hk, K7] at this; cases this
    · have := h1 i c hge hi
      rw [hk, K7] at this; cases this
def zV : Y3 := ⟨0, [], false⟩
def Aa9 (l : List Y3) (t : Int) : Option Y3 := l.reverse.find? fun v => decide (v.Time ≤ t)
theorem Ck8 {l : List Y3} {i : Nat} {x : Y3} {t : Int} (hx : l[i]? = some x) : Aa9 (l.take (i + 1)) t = if x.Time ≤ t then some x else Aa9 (l.take i) t := by
  unfold Aa9;rw [V7, hx, Option.toList_some, List.reverse_append];show List.find? _ (x :: (l.take i).reverse) = _
  rw [List.find?_cons];by_cases h : x.Time ≤ t
  · rw [D1 h, AB1 h]
  · rw [D4 h, AM4 h]
theorem CH8 (c : C4) (t : Int) : Aq9 c t = (((Aa9 c.Vers t).getD zV).Val, (Aa9 c.Vers t).isSome && !((Aa9 c.Vers t).getD zV).Gone) := by
  unfold Aq9 Aa9
  cases c.Vers.reverse.find? (fun v => decide (v.Time ≤ t)) <;> rfl
theorem Ca0 {l : List C4} {k : Str} {t : Int} (h : Z9 l k = none) : cellAt l k t = ([], false) := by unfold cellAt; rw [h]
theorem Ca1 {l : List C4} {k : Str} {t : Int} {c : C4} (h : Z9 l k = some c) : cellAt l k t = Aq9 c t := by unfold cellAt; rw [h]
def O0.ocs (c : O0) (x : Value × Value) : List AV := [AV.int c.Kind, AV.int c.Txn, AV.int c.Time, AV.int c.Lead, AV.is x.1, AV.is x.2, AV.bool c.Yes]
def AU4.ocs (c : AU4) (x : Value × Value) : List AV := [AV.int c.Ver, AV.is x.1, AV.is x.2]
theorem y6 {α : Type} {f : α → Nat} {c : Nat} : ∀ {l : List α}, (∀ x ∈ l, f x ≤ c) → D2 f l ≤ l.length * (c + 1)
  | [], _ => by simp [D2]
  | x :: l, h => by
    rw [U5];have h1 := h x W6;have h2 := y6 (l := l) fun y hy => h y (S7 _ hy);rw [H1, Nat.add_mul]; omega
theorem CQ6 {s : Str} (h : r7 s = true) : s.length ≤ 12 := by
  unfold r7 within at h
  simp only [F0, I4] at h;omega
theorem Ck9 {s : Str} {g : Bool} (h : AI7 s g = true) : s.length ≤ 24 := by
  unfold AI7 AZ2 at h;simp only [F0, I4] at h;omega
theorem BW2 {l : List C4} (h : AK8 l = true) : D2 C4.size l ≤ 9912 := by
  obtain ⟨h1, _, h3⟩ := AG5 h;have : ∀ c ∈ l, c.size ≤ 412 := fun c hc => by
    obtain ⟨k1, k2, k3, _, k5⟩ := h3 c hc;have e1 := CQ6 k1;have e2 := y6 (f := Y3.size) (c := 24) (l := c.Vers) fun v hv => by
      have := k5 v hv;unfold Az3 at this;simp only [F0] at this;exact Ck9 this.2
    unfold C4.size; omega
  have h4 := y6 this;omega
theorem BW3 {α : Type} {p : α → α → Bool} (tr : ∀ a b c, p a b = true → p b c = true → p a c = true) : ∀ {l : List α}, adj p l = true ↔ l.Pairwise fun a b => p a b = true
  | [] => by simp [adj]
  | [x] => by simp [adj]
  | x :: y :: l => by
    constructor
    · intro h
      refine AC7.2 ⟨Bc5 tr h, ?_⟩;exact (BW3 tr).1 (BO7 h)
    · intro h
      obtain ⟨h1, h2⟩ := AC7.1 h;rw [Ak6, h1 y W6, (BW3 tr).2 h2]; rfl
def Av1 (l : List C4) (k : Str) : List Y3 := match Z9 l k with
  | some c => c.Vers
  | none => []
theorem AE2 (c : C4) (l : List C4) (k : Str) : Z9 (c :: l) k = if c.Key = k then some c else Z9 l k := by
  unfold Z9;rw [List.find?_cons];by_cases h : c.Key = k
  · rw [D1 h, e8.2 h]
  · rw [D4 h, beq_eq_false_iff_ne.2 h]
theorem findC_gt {l : List C4} {k : Str} (h : ∀ c ∈ l, Op.bytesLess k c.Key = true) : Z9 l k = none := by
  unfold Z9;rw [List.find?_eq_none];intro c hc he;have := h c hc;simp only [e8] at he;rw [he, K7] at this; cases this
theorem CQ7 {k : Str} {v : Y3} : ∀ {l : List C4}, adj u5 l = true → Z9 (AI8 l k v) k = some ⟨k, Av1 l k ++ [v]⟩
  | [], _ => by unfold AI8; rw [AE2, D1 rfl]; rfl
  | c :: l, ha => by
    have hal := BO7 ha;unfold AI8;by_cases h1 : Op.bytesLess c.Key k = true
    · have hne : c.Key ≠ k := fun e => by rw [e, K7] at h1; cases h1
      rw [D1 h1, AE2, D4 hne, CQ7 hal];unfold Av1; rw [AE2, D4 hne]
    · rw [D4 h1]
      by_cases h2 : c.Key = k
      · rw [D1 h2, AE2, D1 rfl]
        unfold Av1; rw [AE2, D1 h2]
      · rw [D4 h2, AE2, D1 rfl]
        have hk : Op.bytesLess k c.Key = true := by have := X9 k c.Key; simp_all
        have hn : Z9 (c :: l) k = none := findC_gt fun d hd => by
          rcases O5.1 hd with e | e
          · subst e; exact hk
          · exact T8 hk (Bc5 Ag0 ha d e)
        unfold Av1; rw [hn]; rfl
theorem Aq0 {k k' : Str} {v : Y3} (hk : k' ≠ k) : ∀ {l : List C4}, Z9 (AI8 l k v) k' = Z9 l k'
  | [] => by unfold AI8; rw [AE2, D4 (fun e => hk e.symm)]
  | c :: l => by
    unfold AI8;split
    · rw [AE2, AE2, Aq0 hk]
    · split
      · rename_i h2
        rw [AE2, AE2, D4 (fun e => hk e.symm), D4 (fun e => hk (e.symm.trans h2))]
      · rw [AE2, D4 (fun e => hk e.symm)]
theorem BP0 {t : Int} : ∀ {w : List A4} {l out : List C4}, (w.map A4.Key).Nodup → adj u5 l = true → j9 l w t = some out →
    (∀ x ∈ w, Z9 out x.Key = some ⟨x.Key, Av1 l x.Key ++ [⟨t, x.Val, x.Gone⟩]⟩) ∧ ∀ k, k ∉ w.map A4.Key → Z9 out k = Z9 l k
  | [], l, out, _, _, h => by simp [j9] at h; subst h; simp
  | y :: w, l, out, hn, ha, h => by
    unfold j9 at h;split at h
    · cases h
    · rw [T3, List.nodup_cons] at hn
      obtain ⟨i1, i2⟩ := BP0 hn.2 (Bj9 y.Key ⟨t, y.Val, y.Gone⟩ ha) h;refine ⟨fun x hx => ?_, fun k hk => ?_⟩
      · rcases O5.1 hx with e | e
        · subst e
          rw [i2 _ hn.1]; exact CQ7 ha
        · rw [i1 x e]
          have hne : x.Key ≠ y.Key := fun e2 => hn.1 (e2 ▸ List.mem_map_of_mem e);have : Av1 (AM9 l y t) x.Key = Av1 l x.Key := by
            unfold Av1 AM9; rw [Aq0 hne]
          unfold AM9 at this;rw [this]
      · simp only [T3, O5, not_or] at hk
        rw [i2 k hk.2]; exact Aq0 hk.1
theorem CQ8 {w : List A4} (h : AE4 w = true) : (w.map A4.Key).Nodup := by
  unfold AE4 n7 U0 at h;simp only [F0] at h;have ha := h.1.2.2;rw [List.Nodup];refine ((BW3 (p := fun a b => Op.bytesLess a b) (fun a b c h k => T8 h k)).1 ha).imp fun {a b} hab e => ?_;rw [e, K7] at hab; cases hab
end Go.M
