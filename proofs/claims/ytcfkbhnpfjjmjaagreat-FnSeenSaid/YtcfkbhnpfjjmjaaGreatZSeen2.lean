/- Texts of the claim, part 2. -/
import Derived.Laws.BytesArg
import Derived.Laws.IdiomStrings
import Derived.Lib.AppendZerosOnto
import Derived.Lib.Overlaps
import Derived.Sort.Grow
import Derived.Lib.LaidTab
import Derived.Lib.ItoaNum
import Derived.Lib.Split
import Derived.Lib.SplitLaws
import Derived.Lib.ConvBytes
import Derived.WideLaws
import Derived.SizedLaws
import Derived.Test.YtcfkbhnpfjjmjaaGreatProg
import Derived.Sort.Walk0
import Derived.Test.YtcfkbhnpfjjmjaaGreatZSeen1
set_option linter.unusedVariables false
set_option linter.unusedSimpArgs false
set_option maxRecDepth 100000
set_option maxHeartbeats 4000000
set_option linter.defProp false
def M5 := @Go.Proofs.Tryz.underlying9
def i4 := @Go.Proofs.Tryz.underlying114
def M8 := @Go.Proofs.Tryz.underlying205
def E5 := @Go.Proofs.Tryz.sizeOf47
def K0 := @Go.Proofs.Tryz.underlying113
def p7 := @Go.Proofs.Tryz.sizeOf176
def N7 := @Go.Proofs.Tryz.sizeOf143
def a7 := @Go.Proofs.Tryz.sizeOf255
def H5 := @Go.Proofs.Tryz.underlying179
def B4 := @Go.Proofs.Tryz.underlying25
def I8 := @Go.Proofs.Tryz.underlying180
def S7 := @Go.Proofs.Tryz.sizeOf156
def N1 := @Go.Proofs.Tryz.sizeOf33
def N8 := @Go.Proofs.Tryz.sizeOf252
def I5 := @Go.Proofs.Tryz.sizeOf207
def i5 := @Go.Proofs.Tryz.underlying167
def C8 := @Go.Proofs.Tryz.sizeOf178
def T5 := @Go.Proofs.Tryz.sizeOf226
def U4 := @Go.Proofs.Tryz.underlying203
def Z7 := @Go.Proofs.Tryz.isAgg173
def d8 := @Go.Proofs.Tryz.underlying22
def c0 := @Go.Proofs.Tryz.underlying182
def N2 := @Go.Proofs.Tryz.sizeOf116
def c9 := @Go.Proofs.Tryz.sizeOf79
def Y4 := @Go.Proofs.Tryz.sizeOf203
def O7 := @Go.Proofs.Tryz.sizeOf182
def F8 := @Go.Proofs.Tryz.underlying24
def AC0 := @Go.Proofs.Tryz.isAgg45
def B6 := @Go.Proofs.Tryz.sizeOf3
def P8 := @Go.Proofs.Tryz.sizeOf148
def V4 := @Go.Proofs.Tryz.underlying36
def T8 := @Go.Proofs.Tryz.isAgg182
def N9 := @Go.Proofs.Tryz.sizeOf4
def F3 := @Go.Proofs.Tryz.underlying176
def K6 := @Go.Proofs.Tryz.underlying152
def K7 := @Go.Proofs.Tryz.underlying144
def X4 := @Go.Proofs.Tryz.underlying260
def X5 := @Go.Proofs.Tryz.sizeOf173
def K3 := @Go.Proofs.Tryz.sizeOf9
def Q2 := @Go.Proofs.Tryz.underlying178
def F9 := @Go.Proofs.Tryz.underlying79
def C0 := @Go.Proofs.Tryz.underlying34
def g9 := @Go.Proofs.Tryz.isAgg4
def J4 := @Go.Proofs.Tryz.sizeOf36
def Q3 := @Go.Proofs.Tryz.underlying112
def i8 := @Go.Proofs.Tryz.sizeOf277
def U5 := @Go.Proofs.Tryz.underlying258
def Y7 := @Go.Proofs.Tryz.underlying207
def H6 := @Go.Proofs.Tryz.underlying143
def Z8 := @Go.Proofs.Tryz.isAgg156
def S4 := @Go.Proofs.Tryz.underlying110
def n6 := @Go.Proofs.Tryz.isAgg9
def J9 := @Go.Proofs.Tryz.isAgg178
def N5 := @Go.Proofs.Tryz.sizeOf45
def Y5 := @Go.Proofs.Tryz.isAgg33
def V5 := @Go.Proofs.Tryz.isAgg116
def P2 := @Go.Proofs.Tryz.sizeOf260
def P3 := @Go.Proofs.Tryz.underlying121
def G7 := @Go.Proofs.Tryz.underlying111
def T6 := @Go.Proofs.Tryz.underlying116
def I7 := @Go.Proofs.Tryz.isAgg3
def J3 := @Go.Proofs.Tryz.underlying33
def c5 := @Go.Proofs.Tryz.underlying3
def V0 := @Go.Proofs.Tryz.underlying4
def p8 := @Go.Proofs.Tryz.sizeOf234
namespace Go.AV
open Go.RowKit (Below)
section
variable {P : Program} {G : Nat → Prop} {n : Nat}
def OpE (P : Program) (G : Nat → Prop) (n : Nat) (W : List Own) (ops : Array Oper) (o : Oper) (E : K5) {α : Type} (ok : α → Prop) (W' : α → List Own) (V : α → AV) : Prop :=
  ∀ w0 R0 R a w, P0 G w0 R0 W R w → a.tmps.size = n → (∀ t ∈ o.looksAt ops, ∀ y, E t = some y → y.den R (a.tmps.getD t undef)) →
    o.wp P a w (fun a' w' => ∃ x v R', ok x ∧ a' = a.put o.dst v ∧ P0 G w0 R0 (W' x) R' w' ∧ I2 R R' ∧ (V x).den R' v) (fun _ _ _ => False)
theorem OpE.congr {W : List Own} {ops : Array Oper} {o : Oper} {E E' : K5} {α : Type} {ok : α → Prop} {W' : α → List Own} {V : α → AV} (h : OpE P G n W ops o E ok W' V) (he : ∀ t ∈ o.looksAt ops, E' t = E t) : OpE P G n W ops o E' ok W' V :=
  fun w0 R0 R a w h1 h2 h3 => h w0 R0 R a w h1 h2 fun t ht y hy => h3 t ht y (by rw [he t ht]; exact hy)
def AC4 (base W : List Own) : Prop := ∃ ext, W = base ++ ext
theorem AK5 {own : List Own} : AC4 own own := ⟨[], (List.append_nil _).symm⟩
theorem BB4 {own : List Own} : AC4 [] own := ⟨own, rfl⟩
theorem O2 {own : List Own} (k : Nat) : AC4 (own.take k) own := ⟨own.drop k, (List.take_append_drop k own).symm⟩
theorem Bt8 {base W ext : List Own} (h : W = base ++ ext) : AC4 base W := ⟨ext, h⟩
theorem Bt9 {R : F5} {w : World} {v : Value} {e : TypeId} {sz : Nat} {es : List (List AV)} (h : Own.ok R w (.arr v e sz es)) : v.oneCell' = true := by
  obtain ⟨_, _, xs, hown, _⟩ := h
  obtain ⟨oa, c, rfl, _⟩ := Ag7 hown
  rfl
theorem Q5 {own : List Own} {ops : Array Oper} {o : Oper} {rs : List Oper} {K : G1 → Prop} {env : List (Nat × AV)} {v : Value} {e : TypeId} {sz : Nat} {es : List (List AV)} (i : Nat) (hi : own[i]? = some (.arr v e sz es)) (k : v.oneCell' = true → M7 P G n ops (o :: rs) ⟨own, env⟩ K) : M7 P G n ops (o :: rs) ⟨own, env⟩ K := fun w0 R0 R a w hs =>
  k (Bt9 (hs.1.owned _ (C4 hi))) w0 R0 R a w hs
theorem sq_own {own own' : List Own} {ops : Array Oper} {o : Oper} {rs : List Oper} {K : G1 → Prop} {env : List (Nat × AV)} (h : own = own') (k : M7 P G n ops (o :: rs) ⟨own', env⟩ K) : M7 P G n ops (o :: rs) ⟨own, env⟩ K := by subst h; exact k
theorem I3 {own own' : List Own} {c : Code} {Q : Exit → G1 → Prop} {env : List (Nat × AV)} (h : own = own') (k : AWP P G n c Q ⟨own', env⟩) : AWP P G n c Q ⟨own, env⟩ := by subst h; exact k
theorem Ad9 {own : List Own} {o : Oper} {E : K5} {t : TypeId} {p : Operand} {b off : Nat} {fs : Array Field} {fd : Field} {k j : Nat} (m : Nat) (ho : o.op = .fieldAddr t p k) (ht : P.underlying t = some (.struct fs)) (hk : fs[k]? = some fd) (hs : ∀ w, (sizeOf fd.type).run P w = .ok (j + 1) w)
    (hp : Ev E p (AV.ptr b off)) (hm : off + fd.offset = m) : OpW P G n own o E (AV.ptr b m) := by subst hm; exact w_fldB ho ht hk hs hp
def qB (P : Program) (G : Nat → Prop) (n : Nat) (Inv : List Own → Prop) (ops : Array Oper) (i : Nat) (K : K5 → List Own → Prop) (E : K5) (W : List Own) : Prop :=
  match ops[i]? with
  | none => K E W
  | some o => (∃ x, OpA P G n W ops o E x ∧ K (updF o.dst x E) W) ∨
      (o.guard = none ∧ ∃ (α : Type) (ok : α → Prop) (W' : α → List Own) (V : α → AV), OpE P G n W ops o E ok W' V ∧ (∀ a, ok a → Inv (W' a)) ∧ ∀ a, ok a → K (updF o.dst (V a) E) (W' a))
theorem qB_mono {Inv : List Own → Prop} {ops : Array Oper} {i : Nat} {E : K5} {W : List Own} {K K' : K5 → List Own → Prop} (hW : Inv W) (h : ∀ E W, Inv W → K E W → K' E W) (hh : qB P G n Inv ops i K E W) : qB P G n Inv ops i K' E W := by
  unfold qB at *
  split
  · exact h _ _ hW (by simpa [*] using hh)
  · rename_i o ho
    simp only [ho] at hh
    rcases hh with ⟨x, h1, h2⟩ | ⟨hg, α, ok, W', V, h1, h2, h3⟩
    · exact .inl ⟨x, h1, h _ _ hW h2⟩
    · exact .inr ⟨hg, α, ok, W', V, h1, h2, fun a ha => h _ _ (h2 a ha) (h3 a ha)⟩
def wpAnyB (P : Program) (G : Nat → Prop) (n : Nat) (Inv : List Own → Prop) (md : Region.Mode) (ops : Array Oper) (m : Nat) (L : Array Bool → K5 → List Own → Prop) : Nat → Array Bool → K5 → List Own → Prop
  | 0, listed, E, W => L listed E W
  | f + 1, listed, E, W => Region.ready md ops listed ≠ [] ∧ ∀ i ∈ Region.ready md ops listed, i < m ∧ qB P G n Inv ops i (wpAnyB P G n Inv md ops m L f (listed.setIfInBounds i true)) E W
theorem z5 {Inv : List Own → Prop} {md : Region.Mode} {ops : Array Oper} {m g : Nat} {L : Array Bool → K5 → List Own → Prop} (hdst : ∀ (i : Nat) (o : Oper), ops[i]? = some o → ∀ d, o.dst = some d → d < n) {w0 : World} {R0 R00 : F5} {Q' : Exit → Act → World → Prop}
    (hL : ∀ listed E W R a w, I2 R00 R → P0 G w0 R0 W R w → r7 E R a → a.tmps.size = n → a.defers = [] → L listed E W → wpAny P md ops Q' g listed a w) : ∀ (f : Nat) (listed : Array Bool) (E : K5) (W : List Own) (R : F5) (a : Act) (w : World),
    I2 R00 R → P0 G w0 R0 W R w → r7 E R a → a.tmps.size = n → a.defers = [] → wpAnyB P G n Inv md ops m L f listed E W → wpAny P md ops Q' (f + g) listed a w
  | 0, listed, E, W, R, a, w, h1, h2, h3, h4, h5, h => by rw [Nat.zero_add]; exact hL _ _ _ R a w h1 h2 h3 h4 h5 h
  | f + 1, listed, E, W, R, a, w, h1, h2, h3, h4, h5, h => by
    rw [show f + 1 + g = (f + g) + 1 by omega]
    refine ⟨fun h0 => absurd h0 h.1, fun i hi => ?_⟩
    have hq := (h.2 i hi).2
    unfold qB at hq
    unfold wpOp
    cases ho : ops[i]? with
    | none =>
      simp only [ho] at hq
      exact z5 hdst hL f _ E W R a w h1 h2 h3 h4 h5 hq
    | some o =>
      simp only [ho] at hq
      have hdo : ∀ k, o.dst = some k → k < a.tmps.size := fun k e => by rw [h4]; exact hdst i o ho k e
      rcases hq with ⟨x, hx, hk⟩ | ⟨hg, α, ok, W', V, hx, _, hk⟩
      · obtain ⟨k1, k2⟩ := hx w0 R0 R a w h2 h4 fun t _ y hy => h3 t y hy
        by_cases hw : Region.wanted o (yielded ops a.tmps) = true
        · simp only [hw, if_true]
          refine .inl (Oper.wp_mono2 (fun a' w' ⟨v, R', e1, e2, e3, e4⟩ => ?_) (fun _ _ _ h => h.elim) (k1 hw))
          subst e1
          exact z5 hdst hL f _ (updF o.dst x E) W R' _ w' (h1.trans e3) e2 (j8 h3 e3 hdo e4) Af2 Af3 hk
        · have hwf : Region.wanted o (yielded ops a.tmps) = false := by simpa using hw
          simp only [hwf, Bool.false_eq_true, if_false]
          exact z5 hdst hL f _ (updF o.dst x E) W R _ w h1 h2 (j8 h3 (I2.refl _) hdo (k2 hwf)) Af2 Af3 hk
      · have hw : Region.wanted o (yielded ops a.tmps) = true := Ax2 hg
        simp only [hw, if_true]
        refine .inl (Oper.wp_mono2 (fun a' w' ⟨x, v, R', e0, e1, e2, e3, e4⟩ => ?_) (fun _ _ _ h => h.elim) (hx w0 R0 R a w h2 h4 fun t _ y hy => h3 t y hy))
        subst e1
        exact z5 hdst hL f _ (updF o.dst (V x) E) (W' x) R' _ w' (h1.trans e3) e2 (j8 h3 e3 hdo e4) Af2 Af3 (hk x e0)
theorem qB_put {Inv : List Own → Prop} {ops : Array Oper} {j : Nat} {oi oj : Oper} {x : AV} {W : List Own} (hj : ops[j]? = some oj) (hap : oi.apart ops oj = true) {K : K5 → List Own → Prop} {E : K5} (hW : Inv W)
    (hy : ∀ W, Inv W → OpA P G n W ops oi E x) (h : qB P G n Inv ops j K (updF oi.dst x E) W) :
    qB P G n Inv ops j (fun E' W' => (∀ W, Inv W → OpA P G n W ops oi E' x) ∧ K (updF oi.dst x E') W') E W := by
  obtain ⟨h1, h2, h3⟩ := Oper.apart_spec hap
  unfold qB at *
  simp only [hj] at *
  rcases h with ⟨y, hu, hn⟩ | ⟨hg, α, ok, W', V, hu, hi, hn⟩
  · exact .inl ⟨y, hu.unupd h1, fun W hW => (hy W hW).upd h3, by rw [An6 h2]; exact hn⟩
  · exact .inr ⟨hg, α, ok, W', V, hu.congr fun t ht => (n4 fun e => h1 t e ht).symm, hi, fun a ha => ⟨fun W hW => (hy W hW).upd h3, by rw [An6 h2]; exact hn a ha⟩⟩
theorem AW3 {Inv : List Own → Prop} {md : Region.Mode} {ops : Array Oper} {m i : Nat} {oi : Oper} {x : AV} {L : Array Bool → K5 → List Own → Prop} (hi : ops[i]? = some oi)
    (hs : Region.sinkB md ops m = true) (hc : Region.chainB md ops m = true) (hn : m < ops.size) (hin : i < m)
    (hdone : ∀ listed E W, L listed E W → ∀ j ∈ Region.ready md ops listed, m ≤ j) :
    ∀ (f : Nat) (listed : Array Bool) (E : K5) (W : List Own), HeadInv md ops m listed → Inv W →
      (∀ j oj, ops[j]? = some oj → j ≠ i → listed.getD j true = false → (∀ e ∈ oj.after, Region.binds md e = true → e.on ≠ i) → oi.apart ops oj = true) →
      i ∈ Region.ready md ops listed → (∀ W, Inv W → OpA P G n W ops oi E x) →
      wpAnyB P G n Inv md ops m L f (listed.setIfInBounds i true) (updF oi.dst x E) W → wpAnyB P G n Inv md ops m L (f + 1) listed E W := by
  have put : ∀ {K : K5 → List Own → Prop} {E : K5} {W : List Own}, Inv W → (∀ W, Inv W → OpA P G n W ops oi E x) → K (updF oi.dst x E) W → qB P G n Inv ops i K E W := fun hW hy hK => by
    unfold qB
    simp only [hi]
    exact .inl ⟨x, hy _ hW, hK⟩
  intro f
  induction f with
  | zero =>
    intro listed E W inv hW _ hr hy H
    have hun := (mem_ready.1 hr).1
    refine ⟨fun h => At9, fun j hj => ?_⟩
    have hjn : j < m := by
      rcases Nat.lt_or_ge j m with h | h
      · exact h
      · exact absurd hj (tail_waits hs hc hn inv _ i rfl hin hun j h)
    refine ⟨hjn, ?_⟩
    by_cases hji : j = i
    · subst hji; exact put hW hy H
    · have := hdone _ _ _ H j (ready_mono hj hji)
      omega
  | succ f ih =>
    intro listed E W inv hW hfree hr hy H
    have hun := (mem_ready.1 hr).1
    refine ⟨fun h => At9, fun j hj => ?_⟩
    have hjn : j < m := by
      rcases Nat.lt_or_ge j m with h | h
      · exact h
      · exact absurd hj (tail_waits hs hc hn inv _ i rfl hin hun j h)
    refine ⟨hjn, ?_⟩
    by_cases hji : j = i
    · subst hji; exact put hW hy H
    · have h1 := (H.2 j (ready_mono hj hji)).2
      obtain ⟨hjun, oj, hoj, hall⟩ := mem_ready.1 hj
      have hnot : ∀ e ∈ oj.after, Region.binds md e = true → e.on ≠ i := fun e he hb heq => by
        have h1 := hall e he hb
        rw [heq, getD_both hun] at h1
        cases h1
      have h2 := qB_put hoj (hfree j oj hoj hji hjun hnot) hW hy h1
      have hfree' : ∀ k ok, ops[k]? = some ok → k ≠ i → (listed.setIfInBounds j true).getD k true = false →
          (∀ e ∈ ok.after, Region.binds md e = true → e.on ≠ i) → oi.apart ops ok = true := fun k ok hk hki hun hno => by
        refine hfree k ok hk hki ?_ hno
        by_cases hjk : j = k
        · subst hjk; exact hjun
        · rw [getD_set_ne true hjk] at hun; exact hun
      refine qB_mono hW (fun E' W' hW' h3 => ih (listed.setIfInBounds j true) E' W' (inv.set hj hjn) hW' hfree' (ready_mono hr (Ne.symm hji)) h3.1 ?_) h2
      rw [Array.setIfInBounds_comm _ _ hji]
      exact h3.2
def BR2 (md : Region.Mode) (ops : Array Oper) (g m : Nat) : List (Nat × Bool) → Array Bool → Bool
  | [], listed => Region.seqB md ops g m listed
  | (i, false) :: r, listed => (Region.ready md ops listed).contains i && Region.free md ops listed i && Nat.blt i m && BR2 md ops g m r (listed.setIfInBounds i true)
  | (i, true) :: r, listed => decide (Region.ready md ops listed = [i]) && Nat.blt i m && BR2 md ops g m r (listed.setIfInBounds i true)
def mixB (md : Region.Mode) (ops : Array Oper) (ord : List (Nat × Bool)) : Bool :=
  decide (ord.length < ops.size) && Region.sinkB md ops ord.length && Region.chainB md ops ord.length && BR2 md ops (ops.size - ord.length) ord.length ord (Array.replicate ops.size false)
def BCh (P : Program) (G : Nat → Prop) (n : Nat) (Inv : List Own → Prop) (ops : Array Oper) : List (Nat × Bool) → List (Nat × AV) → List Own → (List (Nat × AV) → List Own → Prop) → Prop
  | [], env, W, K => K env W
  | (i, false) :: r, env, W, K => ∃ o, ops[i]? = some o ∧ ∃ x, (∀ W', Inv W' → OpA P G n W' ops o (getv · env) x) ∧ BCh P G n Inv ops r (putv o.dst x env) W K
  | (i, true) :: r, env, W, K => ∃ o, ops[i]? = some o ∧ o.guard = none ∧ ∃ (α : Type) (ok : α → Prop) (W' : α → List Own) (V : α → AV), OpE P G n W ops o (getv · env) ok W' V ∧ (∀ a, ok a → Inv (W' a)) ∧ ∀ a, ok a → BCh P G n Inv ops r (putv o.dst (V a) env) (W' a) K
theorem Ah5 {Inv : List Own → Prop} {md : Region.Mode} {ops : Array Oper} {m g : Nat} {K : List (Nat × AV) → List Own → Prop} (hs : Region.sinkB md ops m = true) (hc : Region.chainB md ops m = true) (hn : m < ops.size) :
    ∀ (l : List (Nat × Bool)) (listed : Array Bool) (env : List (Nat × AV)) (W : List Own), HeadInv md ops m listed → Inv W →
    BR2 md ops g m l listed = true → BCh P G n Inv ops l env W K →
    wpAnyB P G n Inv md ops m (fun listed' E W => Region.seqB md ops g m listed' = true ∧ ∃ env', E = (getv · env') ∧ K env' W) l.length listed (getv · env) W
  | [], listed, env, W, _, _, hB, h => ⟨hB, env, rfl, h⟩
  | (i, false) :: l, listed, env, W, inv, hW, hB, h => by
    simp only [BR2, Bool.and_eq_true] at hB
    obtain ⟨⟨⟨hr, hf⟩, hlt⟩, hB'⟩ := hB
    have hkn : i < m := Nat.blt_eq.mp hlt
    have hr' : i ∈ Region.ready md ops listed := by simpa using hr
    obtain ⟨o, ho, x, hx, hK⟩ := h
    refine AW3 ho hs hc hn hkn (fun listed' E W hL => seqB_ready hL.1) l.length listed _ W inv hW (Region.free_spec ho hf) hr' hx ?_
    rw [← X2]
    exact Ah5 hs hc hn l _ _ W (inv.set hr' hkn) hW hB' hK
  | (i, true) :: l, listed, env, W, inv, hW, hB, h => by
    simp only [BR2, Bool.and_eq_true, decide_eq_true_eq] at hB
    obtain ⟨⟨hr, hlt⟩, hB'⟩ := hB
    have hkn : i < m := Nat.blt_eq.mp hlt
    have hr' : i ∈ Region.ready md ops listed := by rw [hr]; simp
    obtain ⟨o, ho, hg, α, ok, W', V, h1, h2, h3⟩ := h
    refine ⟨fun h0 => Au0, fun j hj => ?_⟩
    rw [hr] at hj
    have : j = i := by simpa using hj
    subst this
    refine ⟨hkn, ?_⟩
    unfold qB
    simp only [ho]
    refine .inr ⟨hg, α, ok, W', V, h1, h2, fun a ha => ?_⟩
    rw [← X2]
    exact Ah5 hs hc hn l _ _ (W' a) (inv.set hr' hkn) (h2 a ha) hB' (h3 a ha)
theorem M3 {id : Nat} {l : List Oper} {Q : Exit → G1 → Prop} {env : List (Nat × AV)} {own : List Own} (base : List Own) (ord : List (Nat × Bool)) (hm : P.follows .mixedOrders = true) (hB : mixB .any l.toArray ord = true) (hd : dstOk n l = true) (hb : AC4 base own)
  (h : BCh P G n (AC4 base) l.toArray ord env own (fun env' W => M7 P G n l.toArray (l.drop ord.length) ⟨W, env'⟩ (Q .normal))) : AWP P G n (.region id l.toArray true) Q ⟨own, env⟩ := fun w0 R0 R a w ⟨h1, h2, h3, h4⟩ => by
 simp only [mixB, Bool.and_eq_true, decide_eq_true_eq] at hB
 obtain ⟨⟨⟨hn, hs⟩, hc⟩, hlex⟩ := hB
 have hn' : ord.length < l.length := by simpa using hn
 have hdl : (l.drop ord.length).length = l.toArray.size - ord.length := by simp
 have inv0 : HeadInv .any l.toArray ord.length (Array.replicate l.toArray.size false) :=
  ⟨by simp, fun j oj _ hl => Bc3, fun t _ ht => getD_in (by simpa using ht) (getD_replicate_false _ _)⟩
 have H := Ah5 (g := l.toArray.size - ord.length) hs hc hn ord _ env own inv0 hb hlex h
 refine wp_region_any hm ?_
 have := z5 (w0 := w0) (R0 := R0) (R00 := R) (g := l.toArray.size - ord.length) (Q' := fun e a' w' => ∃ s' R', Q e s' ∧ I2 R R' ∧ St G n w0 R0 s' R' a' w') (fun i o ho d e => AM1 hd i o (by simpa using ho) d e) (fun listed E W R' a' w' g1 g2 g3 g4 g5 hL => by
  obtain ⟨hL1, env', rfl, hL2⟩ := hL
  have := wpAny_of_seq (P := P) (md := .any) (Q' := fun e a' w' => ∃ s' R', Q e s' ∧ I2 R R' ∧ St G n w0 R0 s' R' a' w') (l.drop ord.length) ord.length listed a' w' (fun j => by simp [List.getElem?_drop]) (by rw [hdl]; exact hL1)
   (m3 (R00 := R) (K := Q .normal) (fun s' R' a w q r1 r2 => ⟨s', R', q, r1, r2⟩) _ (⟨W, env'⟩ : G1) R' a' w' g1 ⟨g2, g3, g4, g5⟩ hL2)
  rwa [hdl] at this) _ _ _ own R a _ (I2.refl _) (AJ8 h1) h2 h3 h4 H
 rw [show ord.length + (l.toArray.size - ord.length) = l.toArray.size by omega] at this
 exact this
section
variable {ops : Array Oper} {i : Nat} {o : Oper} {r : List (Nat × Bool)} {env : List (Nat × AV)} {W : List Own} {base : List Own} {K : List (Nat × AV) → List Own → Prop} {d : Nat} {x : AV}
theorem bc_nil {Inv : List Own → Prop} (h : K env W) : BCh P G n Inv ops [] env W K := h
theorem M4 (ho : ops[i]? = some o) (hg : o.guard = none) (hd : o.dst = some d) (h : ∀ ext, OpW P G n (base ++ ext) o (getv · env) x) (k : BCh P G n (AC4 base) ops r ((d, x) :: env) W K) : BCh P G n (AC4 base) ops ((i, false) :: r) env W K :=
  ⟨o, ho, x, fun W' ⟨ext, e⟩ => by subst e; exact AR2 hg (h ext), by rw [hd]; exact k⟩
theorem Q0 {Inv : List Own → Prop} {α : Type} {ok : α → Prop} {W' : α → List Own} {V : α → AV} (ho : ops[i]? = some o) (hg : o.guard = none) (hd : o.dst = some d) (h : OpE P G n W ops o (getv · env) ok W' V) (hi : ∀ a, ok a → Inv (W' a)) (k : ∀ a, ok a → BCh P G n Inv ops r ((d, V a) :: env) (W' a) K) : BCh P G n Inv ops ((i, true) :: r) env W K :=
  ⟨o, ho, hg, α, ok, W', V, h, hi, fun a ha => by rw [hd]; exact k a ha⟩
section
variable {α : Type} {ok : α → Prop} {O : α → List Own} {V : α → AV} {E : K5} {f : FuncId} {args : Array Operand} {tys : Array TypeId} {ps : List Operand} {xs : List AV} {sel rest : List Own}
theorem AD3 {p : Operand} {R : F5} {a : Act} (hev : Ev E p x) (hm : p ∈ o.op.operands.toList) (he : ∀ t ∈ o.looksAt ops, ∀ y, E t = some y → y.den R (a.tmps.getD t undef)) : x.den R (a.eval p) :=
  G0 hev hm fun t ht => he t (AF0 ht)
theorem O3 (is : List Nat) (ho : o.op = .call { callee := .value (.func f), args := args, argTypes := tys })
    (hc : ∀ (vs : Array Value) (w : World), (callFunc f vs).run P w = .ok (.enter f vs) w) (hps : args.toList = ps) (hs : C9 P f xs sel ok O V) (he : EvL E ps xs) (hp : pick W is = (sel, rest)) :
    OpE P G n W ops o E ok (fun a => rest ++ O a) V := fun w0 R0 R a w h1 h3 h2 => by
  have hcore := y5 h1 hp
  have hden := AJ9 (o := o) (fun t ht => h2 t (AF0 ht)) he fun p hp => by simp [ho, Op.operands, Call.operands]; right; rw [← hps] at hp; exact Array.mem_toList_iff.1 hp
  have hrun : (execOp a.eval o).run P w = .ok (.enter f (ps.map a.eval).toArray) w := by
    have hargs : args.map a.eval = (ps.map a.eval).toArray := by rw [← hps]; cases args; simp
    simp only [execOp, ho, resolve, hargs, show a.eval (.func f) = .func (.func f) #[] #[] from rfl]
    simp [Deferred.ofValue, invoke, hc]
  unfold Oper.wp
  rw [hrun, Oper.upon_enter]
  refine (hs R w _ hcore.rle hden (fun q hq => hcore.owned q (List.mem_append_left _ hq)) (W1 hcore).sep).mono fun e w' ⟨x, v, R', e0, e1, e2, e3⟩ => ?_
  subst e1
  exact ⟨x, v, R', e0, rfl, Z3 (AM2 hcore e3) List.perm_append_comm, u3 hcore.rle e3.rold, e2⟩
end
end
end
section
variable {P : Program} {G : Nat → Prop} {n : Nat} {own : List Own} {o : Oper} {E : K5}
end
section
variable {P : Program} {G : Nat → Prop} {n : Nat} {own : List Own} {o : Oper} {E : K5}
theorem BB5 {c : Code} {Q : Exit → G1 → Prop} {env : List (Nat × AV)} {v : Value} {e : TypeId} {sz : Nat} {es : List (List AV)} (i : Nat) (hi : own[i]? = some (.arr v e sz es)) (k1 : v = .slice none 0 0 → es = [] → AWP P G n c Q ⟨own, env⟩)
  (k2 : ∀ g cap, v = .slice (some ⟨g, 0, none⟩) es.length cap → es.length ≤ cap → cap ≤ 9223372036854775807 → AWP P G n c Q ⟨own, env⟩) : AWP P G n c Q ⟨own, env⟩ := fun w0 R0 R a w hs => by
 obtain ⟨_, _, xs, hown, _⟩ := hs.1.owned _ (C4 hi)
 rcases hown.2 with ⟨h1, h2⟩ | ⟨g, cap, cur, h1, _, _, hn, hm, _⟩
 ·exact k1 h1 (List.eq_nil_of_length_eq_zero h2) w0 R0 R a w hs
 exact k2 g cap h1 hn (by unfold maxLen at hm; omega) w0 R0 R a w hs
abbrev slv (g len cap : Nat) : Value := .slice (some ⟨g, 0, none⟩) len cap
section vals
variable {t e : TypeId} {p q q' q'' : Operand} {g len cap sz : Nat}
theorem Be9 {oa : Option Addr} (ho : o.op = .call { callee := .builtin .len, args := #[p], argTypes := #[t] }) (ht : P.underlying t = some (.slice e)) (hp : Ev E p (AV.is (.slice oa len cap))) : OpW P G n own o E (AV.int len) := K9 fun R a w _ he => by
  have h1 : a.eval p = _ := G0 hp AL5 he
  have hel : P.elem t = e := by simp [Program.elem, ht]
  have h2 := run_len_slice (P := P) w t o.type oa len cap t5
  exact ⟨.int .i64 len, by simp only [execOp, ho, resolve, invoke, builtin, List.map_toArray, List.map_cons, List.map_nil, h1, h2, Sem.run_bind, Sem.run_pure, Result.andThen_ok, goInt], rfl⟩
theorem w_vcap {oa : Option Addr} (ho : o.op = .call { callee := .builtin .cap, args := #[p], argTypes := #[t] }) (ht : P.underlying t = some (.slice e)) (hp : Ev E p (AV.is (.slice oa len cap))) : OpW P G n own o E (AV.int cap) := K9 fun R a w _ he => by
  have h1 : a.eval p = _ := G0 hp AL5 he
  have hel : P.elem t = e := by simp [Program.elem, ht]
  have h2 := run_cap_slice (P := P) w t o.type oa len cap t5
  exact ⟨.int .i64 cap, by simp only [execOp, ho, resolve, invoke, builtin, List.map_toArray, List.map_cons, List.map_nil, h1, h2, Sem.run_bind, Sem.run_pure, Result.andThen_ok, goInt], rfl⟩
theorem Ax5 (g hi cap sz : Nat) : sliced (some ⟨g, 0, none⟩) 0 hi cap sz = slv g hi cap := by
  unfold sliced
  by_cases hc : cap = 0
  · simp [hc]
  · simp [hc, Addr.add]
theorem w_vhi {hi : Int} (ho : o.op = .slice t p none (some q) none) (ht : P.underlying t = some (.slice e)) (hsz : ∀ w, (sizeOf e).run P w = .ok sz w) (hp : Ev E p (AV.is (slv g len cap))) (hq : Ev E q (AV.int hi)) (h0 : 0 ≤ hi) (h1 : hi ≤ cap) : OpW P G n own o E (AV.is (slv g hi.toNat cap)) := K9 fun R a w _ he => by
  have e1 : a.eval p = _ := G0 hp K8 he
  have e2 : a.eval q = .int .i64 hi := G0 hq K8 he
  have hel : P.elem t = e := by simp [Program.elem, ht]
  have hr1 := run_slice_h (P := P) (w := w) (t := t) (a := some ⟨g, 0, none⟩) (len := len) (cap := cap) t5 .i64 hi h0 h1
  rw [hel, hsz, Result.andThen_ok, Ax5] at hr1
  exact ⟨_, by simp only [execOp, ho, e1, e2, Option.map_some, Option.map_none, run_sliceAt_slice w t _ _ _ _ t5, hr1, Sem.run_bind, Sem.run_pure, Result.andThen_ok], rfl⟩
theorem AZ1 {lo : Int} (ho : o.op = .slice t p (some q) none none) (ht : P.underlying t = some (.slice e)) (hsz : ∀ w, (sizeOf e).run P w = .ok sz w) (hp : Ev E p (AV.is (slv g len cap))) (hq : Ev E q (AV.int lo)) (h0 : 0 ≤ lo) (h1 : lo ≤ len) : OpW P G n own o E (AV.is (sliced (some ⟨g, 0, none⟩) lo.toNat len cap sz)) := K9 fun R a w _ he => by
  have e1 : a.eval p = _ := G0 hp K8 he
  have e2 : a.eval q = .int .i64 lo := G0 hq K8 he
  have hel : P.elem t = e := by simp [Program.elem, ht]
  have hr1 := run_slice_l (P := P) (w := w) (t := t) (a := some ⟨g, 0, none⟩) (len := len) (cap := cap) t5 .i64 lo h0 h1
  rw [hel, hsz, Result.andThen_ok] at hr1
  exact ⟨_, by simp only [execOp, ho, e1, e2, Option.map_some, Option.map_none, run_sliceAt_slice w t _ _ _ _ t5, hr1, Sem.run_bind, Sem.run_pure, Result.andThen_ok], rfl⟩
end vals
theorem Al5 (w : World) (dT sT ty elem : TypeId) {inf : TypeInfo} (g o dLen dCap : Nat) (a : Addr) (sLen sCap : Nat) (cur : Array Value) (t : TypeId) (cs : List Value)
    (hu : P.underlying dT = some (.slice elem)) (hi : P.info? elem = some inf)
    (hg : w.heap[g]? = some (.cells cur t (0, 0))) (hn : cs.length = Nat.min sLen dLen * inf.size)
    (hsrc : ∀ j v, cs[j]? = some v → w.cell? (a.add j) = some v) (hfit : o + cs.length ≤ cur.size) (h1 : ∀ v ∈ cs, v.oneCell' = true) :
    (Builtin.copy_ #[dT, sT] ty #[.slice (some ⟨g, o, none⟩) dLen dCap, .slice (some a) sLen sCap]).run P w =
      .ok (goInt (Nat.min sLen dLen)) (w.setRow g (cur.toList.take o ++ cs ++ cur.toList.drop (o + cs.length)).toArray) := by
  have hl := run_loadCells_list (P := P) w a cs hsrc
  have hst := run_storeCells_at P g o t cs 0 cur w hg (by simpa using hfit) h1
  simp [Builtin.copy_, run_underlying hu, Builtin.lenOf, Builtin.firstCells, sizeOf, typeInfo, hi, ← hn, hl, hst]
def J8 (own : List Own) (E : K5) (q : Operand) (sz : Nat) (fs : List (List AV)) : Prop :=
  ∀ (G : Nat → Prop) (w0 : World) (R0 R : F5) (a : Act) (w : World), P0 G w0 R0 own R w → (∀ t, q = .tmp t → ∀ y, E t = some y → y.den R (a.tmps.getD t undef)) →
    (∀ f ∈ fs, f.length = sz) ∧ (fs ≠ [] → ∃ ad cap vs, a.eval q = .slice (some ad) fs.length cap ∧ (∀ j u, vs[j]? = some u → w.cell? (ad.add j) = some u) ∧ X1 R vs fs.flatten)
theorem AO2 {R : F5} {w : World} {g len cap : Nat} {e : TypeId} {sz : Nat} {es : List (List AV)} (h : Own.ok R w (.arr (slv g len cap) e sz es)) : len = es.length ∧ len ≤ cap ∧ cap ≤ maxLen ∧ (∀ x ∈ es, x.length = sz) ∧ ∃ (cur : Array Value) (xs : List Value), w.heap[g]? = some (.cells cur e (0, 0)) ∧ cur.size = cap * sz ∧ cur.toList.take (len * sz) = xs ∧ xs.length = len * sz ∧ X1 R xs es.flatten := by
  obtain ⟨_, hu, xs, hown, hd⟩ := h
  rcases hown.2 with ⟨h1, _⟩ | ⟨g', cap', cur, h1, _, hg, hn, hm, hcs, htake⟩
  · cases h1
  · injection h1 with e1 e2 e3
    injection e1 with e1
    injection e1 with e1
    subst e1; subst e2; subst e3
    exact ⟨rfl, hn, hm, hu, cur, xs, hg, hcs, htake, hown.1, hd⟩
theorem Bu0 {q : Operand} {g len cap k : Nat} {e : TypeId} {sz : Nat} {es : List (List AV)} (i : Nat) (hi : own[i]? = some (.arr (slv g len cap) e sz es)) (hq : Ev E q (AV.is (sliced (some ⟨g, 0, none⟩) k len cap sz))) : J8 own E q sz (es.drop k) := fun G w0 R0 R a w hc he => by
  have e1 : a.eval q = _ := hq R a he
  obtain ⟨hl, hlc, _, hu, cur, xs, hg, hcs, htake, hxl, hd⟩ := AO2 (hc.owned _ (C4 hi))
  refine ⟨fun f hf => hu f (List.mem_of_mem_drop hf), fun hne => ?_⟩
  have hk : k < es.length := by
    rcases Nat.lt_or_ge k es.length with h | h
    · exact h
    · exact absurd (List.drop_eq_nil_of_le h) hne
  have hmul : k * sz ≤ len * sz := Nat.mul_le_mul_right sz qz8
  refine ⟨⟨g, k * sz, none⟩, cap - k, xs.drop (k * sz), ?_, fun j u hu' => ?_, ?_⟩
  · rw [e1]; unfold sliced
    rw [if_neg qz8, Option.map_some, m6, Nat.zero_add, List.length_drop, hl]
  · rw [List.getElem?_drop] at hu'
    have hjl : k * sz + j < len * sz := by rw [← hxl]; exact (List.getElem?_eq_some_iff.1 hu').1
    rw [m6]
    rw [← htake, List.getElem?_take_of_lt hjl, Array.getElem?_toList] at hu'
    simp [World.cell?, hg, hu']
  · rw [u5 k hu]
    exact ⟨by simp [hd.1], fun j v x hv hx => hd.2 _ v x (by rw [List.getElem?_drop] at hv; exact hv) (by rw [List.getElem?_drop] at hx; exact hx)⟩
theorem Ah6 {q : Operand} {g len cap : Nat} {e : TypeId} {sz : Nat} {es : List (List AV)} (i : Nat) (hi : own[i]? = some (.arr (slv g len cap) e sz es)) (hq : Ev E q (AV.is (slv g len cap))) : J8 own E q sz es := by
  have := Bu0 (k := 0) i hi (by rw [Ax5]; exact hq)
  rwa [List.drop_zero] at this
theorem Ax6 {g k m cap sz : Nat} (h : k < m) (hc : m ≤ cap) : sliced (some ⟨g, 0, none⟩) k m cap sz = .slice (some ⟨g, k * sz, none⟩) (m - k) (cap - k) := by
  unfold sliced
  rw [if_neg qz8, Option.map_some, m6, Nat.zero_add]
theorem Bf0 {sz k : Nat} {es fs : List (List AV)} (hu : ∀ e ∈ es, e.length = sz) (hf : ∀ f ∈ fs, f.length = sz) : (es.take k ++ fs ++ es.drop (k + fs.length)).flatten = splice es.flatten (k * sz) fs.flatten := by
  rw [List.flatten_append, List.flatten_append, k0 k hu, u5 (k + fs.length) hu]
  unfold splice
  rw [W6 hf, Nat.add_mul]
theorem BO2 {ops : Array Oper} {rest : List Oper} {env : List (Nat × AV)} {K : G1 → Prop} {t e : TypeId} {p q : Operand} {d sz g len cap k m : Nat} {inf : TypeInfo} {es fs : List (List AV)} (i : Nat) (hg : o.guard = none) (ho : o.op = .call { callee := .builtin .copy, args := #[p, q], argTypes := #[t, t] }) (hd : o.dst = some d) (hn : Nat.blt d n = true)
    (ht : P.underlying t = some (.slice e)) (hinf : P.info? e = some inf) (hsz : inf.size = sz) (hp : Ev (getv · env) p (AV.is (sliced (some ⟨g, 0, none⟩) k m cap sz))) (hq : J8 own (getv · env) q sz fs) (hi : own[i]? = some (.arr (slv g len cap) e sz es))
    (hk : k + fs.length ≤ len) (hm : k + fs.length ≤ m) (hmc : m ≤ cap) (hne : fs ≠ []) (c : M7 P G n ops rest ⟨own.set i (.arr (slv g len cap) e sz (es.take k ++ fs ++ es.drop (k + fs.length))), (d, AV.int fs.length) :: env⟩ K) : M7 P G n ops (o :: rest) ⟨own, env⟩ K :=
  a8 hg fun w0 R0 R a w ⟨h1, h2, h3, h4⟩ => by
    have e1 : a.eval p = _ := m2 (s := ⟨own, env⟩) (o := o) hp h2
    obtain ⟨hfu, hsrc⟩ := hq G w0 R0 R a w h1 (fun t _ y hy => h2 t y hy)
    obtain ⟨ad, sc, vs, e2, hcell, hden⟩ := hsrc hne
    have hpos : 0 < fs.length := List.length_pos_iff.2 hne
    have hok := h1.owned _ (C4 hi)
    obtain ⟨hl, hlc, hcm, hu, cur, xs, hgw, hcs, htake, hxl, hdc⟩ := AO2 hok
    rw [Ax6 qz8 hmc] at e1
    have hvl : vs.length = fs.length * sz := by rw [hden.1, W6 hfu]
    have hmin : Nat.min fs.length (m - k) = fs.length := Nat.min_eq_left qz8
    have hone : ∀ u ∈ vs, u.oneCell' = true := fun u hmu => by
      obtain ⟨j, hj⟩ := List.getElem?_of_mem hmu
      have hjl : j < fs.flatten.length := by rw [← hden.1]; exact (List.getElem?_eq_some_iff.1 hj).1
      exact (hden.2 j u _ hj (List.getElem?_eq_getElem hjl)).2
    have hb1 : k * sz + fs.length * sz ≤ len * sz := by rw [← Nat.add_mul]; exact Nat.mul_le_mul_right sz hk
    have hb2 : len * sz ≤ cap * sz := Nat.mul_le_mul_right sz hlc
    have hr := Al5 (P := P) w t t o.type e g (k * sz) (m - k) (cap - k) ad fs.length sc cur e vs ht hinf hgw (by rw [hmin, hsz]; exact hvl) hcell (by rw [hvl, hcs]; omega) hone
    rw [hmin] at hr
    have hex : (execOp a.eval o).run P w = .ok (.value (.int .i64 fs.length)) (w.setRow g (cur.toList.take (k * sz) ++ vs ++ cur.toList.drop (k * sz + vs.length)).toArray) := by
      simp only [execOp, ho, resolve, invoke, builtin, Sem.run_bind, Sem.run_pure, Result.andThen_ok, List.map_toArray, List.map_cons, List.map_nil, e1, e2, hr, goInt]
    unfold Oper.wp
    rw [hex, Oper.upon_value, hd]
    have hel : (es.take k ++ fs ++ es.drop (k + fs.length)).length = len := by simp; omega
    refine ⟨_, R, c, I2.refl _, AC9 h1 hi rfl rfl ⟨hok.1, fun z hz => ?_, xs.take (k * sz) ++ vs ++ xs.drop (k * sz + vs.length), ⟨?_, .inr ⟨g, cap, _, by rw [hel], Nat.zero_le _, setRow_heap w g _ _ e _ hgw, by rw [hel]; exact hlc, hcm, ?_, ?_⟩⟩, ?_⟩ (j9 w g _), i0 h2 (I2.refl _) AG7 rfl, by rw [X6]; exact h3, by rw [U0]; exact h4⟩
    · rcases List.mem_append.1 hz with hz | hz
      · rcases List.mem_append.1 hz with hz | hz
        · exact hu z (List.mem_of_mem_take hz)
        · exact hfu z hz
      · exact hu z (List.mem_of_mem_drop hz)
    · rw [hel]; simp only [G3, G9, List.length_drop, hxl, hvl]; omega
    · simp only [List.size_toArray, G3, G9, List.length_drop, Array.length_toList, hvl, hcs]; omega
    · rw [hel, ← htake]
      exact Ac0 (by rw [Array.length_toList, hcs]; exact hb2) (by rw [hvl]; exact hb1)
    · rw [Bf0 hu hfu]
      exact AB4 hdc hden (by rw [W6 hu, W6 hfu, ← hl]; exact hb1)
theorem sq_shift {ops : Array Oper} {rest : List Oper} {env : List (Nat × AV)} {K : G1 → Prop} {t e : TypeId} {p q : Operand} {d sz g len cap k : Nat} {inf : TypeInfo} {es : List (List AV)} (i : Nat) (hg : o.guard = none) (ho : o.op = .call { callee := .builtin .copy, args := #[p, q], argTypes := #[t, t] }) (hd : o.dst = some d) (hn : Nat.blt d n = true)
    (ht : P.underlying t = some (.slice e)) (hinf : P.info? e = some inf) (hsz : inf.size = sz) (hp : Ev (getv · env) p (AV.is (sliced (some ⟨g, 0, none⟩) (k + 1) (len + 1) cap sz))) (hq : Ev (getv · env) q (AV.is (sliced (some ⟨g, 0, none⟩) k (len + 1) cap sz))) (hi : own[i]? = some (.arr (slv g len cap) e sz es))
    (hk : k < len) (hc : len + 1 ≤ cap) (c : ∀ j, M7 P G n ops rest ⟨own.set i (.arr (slv g (len + 1) cap) e sz (es.take (k + 1) ++ es.drop k)), (d, AV.int j) :: env⟩ K) : M7 P G n ops (o :: rest) ⟨own, env⟩ K :=
  a8 hg fun w0 R0 R a w ⟨h1, h2, h3, h4⟩ => by
    have e1 : a.eval p = _ := m2 (s := ⟨own, env⟩) (o := o) hp h2
    have e2 : a.eval q = _ := m2 (s := ⟨own, env⟩) (o := o) hq h2
    have hok := h1.owned _ (C4 hi)
    obtain ⟨hl, hlc, hcm, hu, cur, xs, hgw, hcs, htake, hxl, hdc⟩ := AO2 hok
    rw [Ax6 qz8 hc] at e1 e2
    have hmin : Nat.min (len + 1 - k) (len + 1 - (k + 1)) = len - k := by
      show min (len + 1 - k) (len + 1 - (k + 1)) = len - k
      omega
    have hb0 : k * sz ≤ len * sz := Nat.mul_le_mul_right sz qz8
    have hb1 : (k + 1) * sz + (len - k) * sz = (len + 1) * sz := by rw [← Nat.add_mul]; congr 1; omega
    have hb2 : (len + 1) * sz ≤ cap * sz := Nat.mul_le_mul_right sz hc
    have hb3 : (k + 1) * sz ≤ len * sz := Nat.mul_le_mul_right sz qz8
    have hb4 : len * sz ≤ cap * sz := Nat.mul_le_mul_right sz hlc
    have hvl : (xs.drop (k * sz)).length = (len - k) * sz := by rw [List.length_drop, hxl, Nat.sub_mul]
    have hone : ∀ u ∈ xs.drop (k * sz), u.oneCell' = true := fun u hmu => by
      obtain ⟨j, hj⟩ := List.getElem?_of_mem (List.mem_of_mem_drop hmu)
      have hjl : j < es.flatten.length := by rw [← hdc.1]; exact (List.getElem?_eq_some_iff.1 hj).1
      exact (hdc.2 j u _ hj (List.getElem?_eq_getElem hjl)).2
    have hcell : ∀ j u, (xs.drop (k * sz))[j]? = some u → w.cell? ((⟨g, k * sz, none⟩ : Addr).add j) = some u := fun j u hu' => by
      rw [List.getElem?_drop] at hu'
      have hjl : k * sz + j < len * sz := by rw [← hxl]; exact (List.getElem?_eq_some_iff.1 hu').1
      rw [m6]
      rw [← htake, List.getElem?_take_of_lt hjl, Array.getElem?_toList] at hu'
      simp [World.cell?, hgw, hu']
    have hr := Al5 (P := P) w t t o.type e g ((k + 1) * sz) (len + 1 - (k + 1)) (cap - (k + 1)) ⟨g, k * sz, none⟩ (len + 1 - k) (cap - k) cur e (xs.drop (k * sz)) ht hinf hgw (by rw [hmin, hsz]; exact hvl) hcell (by rw [hvl, hcs]; omega) hone
    rw [hmin] at hr
    have hex : (execOp a.eval o).run P w = .ok (.value (.int .i64 ((len - k : Nat) : Int))) (w.setRow g (cur.toList.take ((k + 1) * sz) ++ xs.drop (k * sz) ++ cur.toList.drop ((k + 1) * sz + (xs.drop (k * sz)).length)).toArray) := by
      simp only [execOp, ho, resolve, invoke, builtin, Sem.run_bind, Sem.run_pure, Result.andThen_ok, List.map_toArray, List.map_cons, List.map_nil, e1, e2, hr, goInt]
    unfold Oper.wp
    rw [hex, Oper.upon_value, hd]
    have hel : (es.take (k + 1) ++ es.drop k).length = len + 1 := by simp; omega
    refine ⟨_, R, c _, I2.refl _, AC9 h1 hi rfl rfl ⟨hok.1, fun z hz => ?_, xs.take ((k + 1) * sz) ++ xs.drop (k * sz), ⟨?_, .inr ⟨g, cap, _, by rw [hel], Nat.zero_le _, setRow_heap w g _ _ e _ hgw, by rw [hel]; exact hc, hcm, ?_, ?_⟩⟩, ?_⟩ (j9 w g _), i0 h2 (I2.refl _) AG7 rfl, by rw [X6]; exact h3, by rw [U0]; exact h4⟩
    · rcases List.mem_append.1 hz with hz | hz
      · exact hu z (List.mem_of_mem_take hz)
      · exact hu z (List.mem_of_mem_drop hz)
    · rw [hel, G3, hvl, G9, hxl]; omega
    · simp only [List.size_toArray, G3, G9, List.length_drop, Array.length_toList, hcs, hxl]
      have : len * sz - k * sz = (len - k) * sz := (Nat.sub_mul _ _ _).symm
      omega
    · rw [hel]
      show List.take ((len + 1) * sz) (cur.toList.take ((k + 1) * sz) ++ xs.drop (k * sz) ++ cur.toList.drop ((k + 1) * sz + (xs.drop (k * sz)).length)) = _
      have hl2 : (cur.toList.take ((k + 1) * sz) ++ xs.drop (k * sz)).length = (len + 1) * sz := by rw [G3, hvl, G9, Array.length_toList, hcs]; omega
      rw [← hl2, List.take_left', ← htake, List.take_take, Nat.min_eq_left hb3]
      rfl
    · rw [List.flatten_append, k0 (k + 1) hu, u5 k hu]
      refine u6 ⟨by simp [hdc.1], fun j u x hu' hx => ?_⟩ ⟨by simp [hdc.1], fun j u x hu' hx => ?_⟩
      · by_cases hj : j < (k + 1) * sz
        · rw [List.getElem?_take_of_lt hj] at hu' hx; exact hdc.2 j u x hu' hx
        · rw [List.getElem?_eq_none p5] at hu'; cases hu'
      · rw [List.getElem?_drop] at hu' hx; exact hdc.2 _ u x hu' hx
theorem zero_den {R : F5} {z : Value} {sz : Nat} (hzs : z.cells.size = sz) (h1z : z.cells.toList.all Value.oneCell' = true) (hpos : 0 < sz) (m : Nat) : X1 R (Builtin.zeroCells z.cells m).toList (List.replicate m (z.cells.toList.map zeroA)).flatten := by
  have hlz := Ad8 z sz hzs m
  have hu : ∀ e ∈ List.replicate m (z.cells.toList.map zeroA), e.length = sz := fun e he => by rw [(List.mem_replicate.1 he).2]; simp [hzs]
  refine ⟨by rw [hlz.1, W6 hu]; simp, fun j u x hu' hx => ?_⟩
  have hjl : j < m * sz := by rw [← hlz.1]; exact (List.getElem?_eq_some_iff.1 hu').1
  have hjm : j % sz < sz := Nat.mod_lt _ hpos
  have hjd : j / sz < m := Nat.div_lt_of_lt_mul (by rw [Nat.mul_comm]; exact hjl)
  have hjj : j / sz * sz + j % sz = j := by rw [Nat.mul_comm]; exact Nat.div_add_mod j sz
  have hzj : z.cells.toList[j % sz]? = some (z.cells.toList[j % sz]'qz126) := List.getElem?_eq_getElem _
  have hx2 := f5 hu (i := j / sz) (e := z.cells.toList.map zeroA) qz187 (k := j % sz) (x := zeroA (z.cells.toList[j % sz]'qz126)) (by rw [List.getElem?_map, hzj]; rfl)
  rw [hjj, hx] at hx2
  injection hx2 with hx2
  have hu2 : u = z.cells.toList[j % sz]'qz126 := by
    rw [hlz.2 j u hu', getElem!_pos z.cells _ (by rw [hzs]; exact hjm)]; simp
  rw [hx2, hu2]
  exact ⟨q8 R _, List.all_eq_true.1 h1z _ S5⟩
theorem Bx4 {ops : Array Oper} {rest : List Oper} {env : List (Nat × AV)} {K : G1 → Prop} {t tn e : TypeId} {p q : Operand} {kn : IntKind} {d sz by' g len cap j m : Nat} {inf : TypeInfo} {z : Value} {es : List (List AV)} (i : Nat) (hg : o.guard = none) (ho : o.op = .call { callee := .builtin .append, args := #[p, q], argTypes := #[t, tn] }) (hd : o.dst = some d) (hn : Nat.blt d n = true)
    (ht : P.underlying t = some (.slice e)) (htn : P.underlying tn = some (.int kn)) (hinf : P.info? e = some inf) (hz : inf.zero = some z) (hsz : inf.size = sz) (hby : inf.bytes = by') (hzs : z.cells.size = sz) (hpos' : Nat.ble 1 sz = true) (h1z : z.cells.toList.all Value.oneCell' = true) (hp : Ev (getv · env) p (AV.is (slv g j cap))) (hq : Ev (getv · env) q (AV.int m)) (hi : own[i]? = some (.arr (slv g len cap) e sz es))
    (hj : j ≤ len) (hm : 0 < m) (hc : cap < j + m) (hlen : (j + m) * by' ≤ 140737488355328) (hlen2 : j + m ≤ 9223372036854775807) (k : ∀ g' cap', j + m ≤ cap' → M7 P G n ops rest ⟨.arr (slv g' (j + m) cap') e sz (es.take j ++ List.replicate m (z.cells.toList.map zeroA)) :: own, (d, AV.is (slv g' (j + m) cap')) :: env⟩ K) : M7 P G n ops (o :: rest) ⟨own, env⟩ K :=
  a8 hg fun w0 R0 R a w ⟨h1, h2, h3, h4⟩ => by
    have hpos := Nat.le_of_ble_eq_true hpos'
    have e1 : a.eval p = _ := m2 (s := ⟨own, env⟩) (o := o) hp h2
    have e2 : a.eval q = .int .i64 m := m2 (s := ⟨own, env⟩) (o := o) hq h2
    obtain ⟨hl, hlc, hcm, hu, cur, xs, hgw, hcs, htake, hxl, hdc⟩ := AO2 (h1.owned _ (C4 hi))
    have hb1 : j * sz ≤ len * sz := Nat.mul_le_mul_right sz hj
    have hb2 : len * sz ≤ cap * sz := Nat.mul_le_mul_right sz hlc
    have hold : (Builtin.firstCells inf.size j (slv g j cap)).run P w.drew = .ok (xs.take (j * sz)).toArray w.drew := by
      have := run_loadCells_list (P := P) w.drew ⟨g, 0, none⟩ (xs.take (j * sz)) (fun i u hu' => by
        have hil : i < j * sz := by have := (List.getElem?_eq_some_iff.1 hu').1; rw [G9] at this; omega
        rw [List.getElem?_take_of_lt hil, ← htake, List.getElem?_take_of_lt qz8, Array.getElem?_toList] at hu'
        rw [m6, Nat.zero_add]
        show w.cell? _ = _
        simp [World.cell?, hgw, hu'])
      rw [G9, hxl, Nat.min_eq_left hb1] at this
      simpa [Builtin.firstCells, hsz] using this
    have hr := Lib.run_append_grow_zeros (P := P) w t tn o.type e inf z .i64 kn ht htn hinf hz (some ⟨g, 0, none⟩) j cap _ hold m hm qz8 hc qz8 (by
      have : m * by' ≤ (j + m) * by' := Nat.mul_le_mul_right _ qz8
      rw [hby]; omega) (by rw [hby]; exact growslice_fits hc hlen)
    have hex : (execOp a.eval o).run P w = .ok (.value (slv w.heap.size (j + m) (grownCap w (j + m) cap e))) (w.drew.alloc (.cells ((xs.take (j * sz)).toArray ++ Builtin.zeroCells z.cells m ++ Builtin.zeroCells z.cells (grownCap w (j + m) cap e - (j + m))) e)) := by
      simp only [execOp, ho, resolve, invoke, builtin, Sem.run_bind, Sem.run_pure, Result.andThen_ok, List.map_toArray, List.map_cons, List.map_nil, e1, e2, hr]
    unfold Oper.wp
    rw [hex, Oper.upon_value, hd]
    have hge := grownCap_ge w (j + m) cap e
    have hcm2 : grownCap w (j + m) cap e ≤ maxLen := grownCap_le_maxLen w (j + m) cap e BD6
    have hl1 : (xs.take (j * sz)).length = j * sz := by rw [G9, hxl]; omega
    refine ⟨_, R, k _ _ hge, I2.refl _, u7 (sz := sz) (m := j + m) (cap := grownCap w (j + m) cap e) (AJ8 h1) p5 hge hcm2 ?_ (fun x hx => ?_) ?_, i0 h2 (I2.refl _) AG7 rfl, by rw [X6]; exact h3, by rw [U0]; exact h4⟩
    · simp only [Array.size_append, List.size_toArray, size_zeroCells, hl1, hzs, ← Nat.add_mul]
      congr 1; omega
    · rcases List.mem_append.1 hx with hx | hx
      · exact hu x (List.mem_of_mem_take hx)
      · rw [(List.mem_replicate.1 hx).2]; simp [hzs]
    · have hsz3 : ((xs.take (j * sz)).toArray ++ Builtin.zeroCells z.cells m).toList.length = (j + m) * sz := by simp only [Array.length_toList, Array.size_append, List.size_toArray, size_zeroCells, hl1, hzs, Nat.add_mul]
      rw [Array.toList_append, List.take_left' hsz3, Array.toList_append, List.flatten_append]
      refine u6 ?_ (zero_den hzs h1z qz8 m)
      rw [k0 j hu]
      exact ⟨by simp [hdc.1], fun i u x hu' hx => by
        by_cases hij : i < j * sz
        · simp only [List.getElem?_take_of_lt hij] at hu' hx; exact hdc.2 i u x hu' hx
        · rw [List.getElem?_eq_none p5] at hu'; cases hu'⟩
theorem Bn8 {f : FuncId} {fn : Func} {t e tb : TypeId} {p q : Operand} {tys : Array TypeId} {gv cv g len cap k m sz : Nat} {lv : Nat} {es vs : List (List AV)} (iv i : Nat) (ho : o.op = .call { callee := .value (.func f), args := #[p, q], argTypes := tys }) (hf : P.funcs[f]? = some fn) (hname : (fn.name == "runtime.NumGoroutine") = false) (hb : fn.body.isNone = true) (hnx : Extern.findNext fn = none) (he : Extern.find fn = some (Extern.SlicesOverlaps.overlaps #[t, t] #[tb]))
    (ht : P.underlying t = some (.slice e)) (hsz : ∀ w, (sizeOf e).run P w = .ok sz w) (hp : Ev E p (AV.is (slv gv lv cv))) (hq : Ev E q (AV.is (sliced (some ⟨g, 0, none⟩) k m cap sz))) (hiv : own[iv]? = some (.arr (slv gv lv cv) e sz vs)) (hi : own[i]? = some (.arr (slv g len cap) e sz es)) (hne : Nat.beq iv i = false) (hcap : 0 < cap) (hpos : Nat.ble 1 sz = true) :
    OpW P G n own o E (AV.bool false) := m4 fun w0 R0 R a w hcr hen => by
  have e1 : a.eval p = _ := G0 hp AL5 hen
  have e2 : a.eval q = _ := G0 hq AL5 hen
  have hb1 := Nat.le_of_ble_eq_true hpos
  have hij : iv ≠ i := fun h => by rw [h, Nat.beq_refl] at hne; cases hne
  obtain ⟨_, _, _, _, curv, xsv, hgv, hcv, _⟩ := AO2 (hcr.owned _ (C4 hiv))
  obtain ⟨_, _, _, _, cur, xs, hg, hcs, _⟩ := AO2 (hcr.owned _ (C4 hi))
  have hgne : gv ≠ g := fun h => Au5 hcr.sep hiv hi hij (b := gv) rfl (by rw [h]; rfl)
  obtain ⟨ad, lb, cb, hsl, hadb⟩ : ∃ ad lb cb, sliced (some ⟨g, 0, none⟩) k m cap sz = .slice (some ad) lb cb ∧ ad.block = g := by
    unfold sliced
    by_cases h : cap = k
    · exact ⟨_, _, _, by rw [if_pos h], rfl⟩
    · exact ⟨_, _, _, by rw [if_neg h, Option.map_some], by rw [m6]⟩
  rw [hsl] at e2
  have hkB : cap * sz ≠ 0 := Nat.mul_ne_zero qz8 qz8
  have h3 := Lib.run_overlaps_apart (P := P) w t tb e ht sz hsz ⟨gv, 0, none⟩ ad lv cv lb cb (by rw [hadb]; exact hgne) e e curv.size cur.size (by simp [World.shape?, hgv]) (by simp [World.shape?, hadb, hg]) (by rw [hcs]; exact hkB) (by simp [World.frozen?, hgv]) (by simp [World.frozen?, hgv])
  have h4 := run_callFunc_extern (P := P) hf hname hb hnx he #[slv gv lv cv, .slice (some ad) lb cb] w
  rw [h3, Result.andThen_ok] at h4
  refine ⟨.bool false, ?_, rfl⟩
  simp only [execOp, ho, resolve, List.map_toArray, List.map_cons, List.map_nil, e1, e2, show a.eval (.func f) = .func (.func f) #[] #[] from rfl]
  simp [Deferred.ofValue, invoke, h4]
end
section
variable {P : Program} {G : Nat → Prop} {n : Nat} {own : List Own} {o : Oper} {E : K5}
theorem J6 {ops : Array Oper} {t e : TypeId} {p q : Operand} {sz by' : Nat} {inf : TypeInfo} {z : Value} {v : Value} {es fs : List (List AV)} (i : Nat) (ho : o.op = .call { callee := .builtin .append, args := #[p, q], argTypes := #[t, t] }) (ht : P.underlying t = some (.slice e)) (hinf : P.info? e = some inf) (hz : inf.zero = some z) (hsz : inf.size = sz) (hby : inf.bytes = by') (hzs : z.cells.size = sz) (hpos : Nat.ble 1 sz = true) (hpos2 : Nat.ble 1 by' = true) (hp : Ev E p (AV.is v)) (hq : Ev E q (AV.list sz fs)) (hi : own[i]? = some (.arr v e sz es))
    (hlen : (es.length + fs.length) * by' ≤ 140737488355328) : OpE P G n own ops o E (fun _ : Value => True) (fun v' => own.set i (.arr v' e sz (es ++ fs))) (fun v' => AV.is v') :=
  fun w0 R0 R a w h1 h3 h2 => by
    have e1 : a.eval p = v := AD3 (ops := ops) hp AL5 h2
    obtain ⟨oa, c, e2, hc1, hc2, hu, hcell⟩ := AD3 (ops := ops) hq AL5 h2
    obtain ⟨hR, hue, xs, hown, hdc⟩ := h1.owned _ (C4 hi)
    have hb1 := Nat.le_of_ble_eq_true hpos
    have hb2 := Nat.le_of_ble_eq_true hpos2
    have hsum : es.length + fs.length ≤ 140737488355328 := Nat.le_trans (Nat.le_mul_of_pos_right _ hb2) hlen
    have hufs : ∀ x ∈ es ++ fs, x.length = sz := fun x hx => by
      rcases List.mem_append.1 hx with h | h
      · exact hue x h
      · exact hu x h
    by_cases hfs : fs = []
    · subst hfs
      have hrun : ∃ v', (Builtin.append_ #[t, t] o.type #[v, a.eval q]).run P w = .ok v' w ∧ v' = v := by
        refine ⟨v, ?_, rfl⟩
        rw [e2]
        rcases hown.2 with ⟨rfl, hz0⟩ | ⟨g, cap, cur, rfl, _, _, hnc, _⟩
        · cases oa with
          | none => simp [Builtin.append_, run_underlying ht, sizeOf, typeInfo, hinf, Builtin.lenOf, Builtin.firstCells, hz0]
          | some ad => simp [Builtin.append_, run_underlying ht, sizeOf, typeInfo, hinf, Builtin.lenOf, Builtin.firstCells, loadCells, loadCellsFrom, hz0]
        · cases oa with
          | none => simp [Builtin.append_, run_underlying ht, sizeOf, typeInfo, hinf, Builtin.lenOf, Builtin.firstCells, hnc, storeCells]
          | some ad => simp [Builtin.append_, run_underlying ht, sizeOf, typeInfo, hinf, Builtin.lenOf, Builtin.firstCells, loadCells, loadCellsFrom, hnc, storeCells]
      obtain ⟨v', hr, rfl⟩ := hrun
      have hex : (execOp a.eval o).run P w = .ok (.value v') w := by
        simp only [execOp, ho, resolve, invoke, builtin, Sem.run_bind, Sem.run_pure, Result.andThen_ok, List.map_toArray, List.map_cons, List.map_nil, e1, hr]
      unfold Oper.wp
      rw [hex, Oper.upon_value]
      have hset : own.set i (.arr v' e sz (es ++ [])) = own := by
        rw [List.append_nil]
        obtain ⟨hlt, he⟩ := List.getElem?_eq_some_iff.1 hi
        rw [← he]; exact List.set_getElem_self hlt
      exact ⟨v', v', R, trivial, rfl, by show P0 G w0 R0 (own.set i (.arr v' e sz (es ++ []))) R w; rw [hset]; exact h1, I2.refl _, rfl⟩
    · obtain ⟨ad, rfl, hca⟩ := hcell hfs
      obtain ⟨ns, hn1, hn2, hn3⟩ := BE7 (sz := sz) h1.rle hca
      have hnl : ns.length = fs.length * sz := by rw [hn1, W6 hu]
      have hone : ∀ u ∈ ns, u.oneCell' = true := fun u hm => by
        obtain ⟨j, hj⟩ := List.getElem?_of_mem hm
        have hjl : j < fs.flatten.length := by rw [← hn1]; exact (List.getElem?_eq_some_iff.1 hj).1
        exact (hn3.2 j u _ hj (List.getElem?_eq_getElem hjl)).2
      obtain ⟨v', w', hr, hown', hgr, _, hblk⟩ := run_append_own_at (P := P) w 0 t o.type e inf z sz by' ht hinf hz hsz hby hzs hb1 v es.length xs hown ad fs.length c ns hnl hn2 hone BD6 hlen (Nat.zero_le _)
      have hex : (execOp a.eval o).run P w = .ok (.value v') w' := by
        simp only [execOp, ho, resolve, invoke, builtin, Sem.run_bind, Sem.run_pure, Result.andThen_ok, List.map_toArray, List.map_cons, List.map_nil, e1, e2, hr]
      unfold Oper.wp
      rw [hex, Oper.upon_value]
      refine ⟨v', v', R, trivial, rfl, AY8 h1 hi (fun b hb => ?_) ⟨fun b hb => ?_, hufs, xs ++ ns, ?_, ?_⟩ hgr, I2.refl _, rfl⟩
      · simp only [Own.blk] at hb ⊢
        rcases hblk with h | h
        · exact .inl At8
        · rw [hb] at h; injection h with h; exact .inr h
      · rcases hblk with h | h
        · exact hR b At8
        · rw [hb] at h; injection h with h; subst h; exact AW1 h1.rle
      · rw [G3]; exact hown'
      · rw [List.flatten_append]; exact u6 hdc hn3
theorem Z4 {ops : Array Oper} {t e : TypeId} {sz : Nat} (ho : o.op = .buildSlice t 0 #[]) (ht : P.underlying t = some (.slice e)) (hs : ∀ w, (sizeOf e).run P w = .ok sz w)
    : OpE P G n own ops o E (fun _ : Value => True) (fun v' => own ++ [.arr v' e sz []]) (fun v' => AV.is v') :=
  fun w0 R0 R a w h1 h3 h2 => by
    have hex : (execOp a.eval o).run P w = .ok (.value (.slice (some ⟨w.heap.size, 0, none⟩) 0 0)) (w.alloc (.cells #[] e)) := by
      simp [execOp, ho, Instr.buildSlice, run_underlying ht, hs, newRow, Instr.fill, go_sem]
    unfold Oper.wp
    rw [hex, Oper.upon_value]
    exact ⟨_, _, R, trivial, rfl, Z3 (u7 h1 rfl (Nat.le_refl _) (Nat.zero_le _) S5 (fun x hx => by simp at hx) ⟨by simp, fun i v x h => by simp at h⟩) (List.perm_append_comm (l₁ := [_])), I2.refl _, rfl⟩
theorem Ah7 {ops : Array Oper} {t e : TypeId} {len sz : Nat} {z : Value} {ps : Array (Nat × Operand)} {asl : List (Nat × List AV)} {cs : List AV} {es : List (List AV)} (ho : o.op = .buildSlice t len ps) (ht : P.underlying t = some (.slice e)) (hsz : ∀ w, (sizeOf e).run P w = .ok sz w) (hz : ∀ w, (zeroValue e).run P w = .ok z w)
    (hl : Nat.ble (len * sz) 1000 = true) (hl2 : Nat.ble len 1000 = true) (hzs : z.cells.size = sz) (h1' : z.cells.toList.all Value.oneCell' = true) (hp : EvP E ps.toList asl) (hc : afill (fun i => some (i * sz, sz)) ((List.range (len * sz)).map fun i => zeroA (z.cells[i % z.cells.size]!)) asl = some cs) (hes : chunks sz len cs = es)
    : OpE P G n own ops o E (fun _ : Value => True) (fun v' => own ++ [.arr v' e sz es]) (fun v' => AV.is v') :=
  fun w0 R0 R a w h1 h3 h2 => by
    obtain ⟨k1, k2⟩ := Ad7 (o := o) (fun t ht => h2 t (AF0 ht)) hp fun p hpm => by simp [ho, Op.operands]; exact ⟨p.1, by simpa using hpm⟩
    have hone : ∀ i, i < len * sz → (z.cells[i % z.cells.size]!).oneCell' = true := fun i hi => by
      have hpos : 0 < z.cells.size := by
        rw [hzs]
        rcases Nat.eq_zero_or_pos sz with h0 | h0
        · subst h0; simp at hi
        · exact h0
      rw [getElem!_pos z.cells _ (Nat.mod_lt _ hpos)]
      exact List.all_eq_true.1 h1' _ S5
    obtain ⟨cells', f2, f3⟩ := AW0 (R := R) (place := fun i => some (i * sz, sz)) _ asl ((Array.range (len * sz)).map fun i => z.cells[i % z.cells.size]!) _ cs ⟨by simp, fun i v y hv hy => by
      rw [Array.toList_map, List.getElem?_map, Array.toList_range] at hv
      rw [List.getElem?_map] at hy
      by_cases hi : i < len * sz
      · rw [List.getElem?_range hi] at hv hy
        simp only [Option.map_some, Option.some.injEq] at hv hy
        rw [← hv, ← hy]
        exact ⟨q8 R _, hone i hi⟩
      · rw [List.getElem?_eq_none p5] at hv; cases hv⟩ k1 k2 hc
    have hlen := Nat.le_of_ble_eq_true hl
    have h5 : cells'.toList.length = len * sz := by
      rw [f3.1, Ao2 asl _ cs hc]; simp
    have hch := AQ6 sz len cs (by rw [← f3.1]; exact h5)
    have h6 : (ps.map fun (i, x) => (i, a.eval x)).toList = ps.toList.map fun p => (p.1, a.eval p.2) := by simp
    have hrun : (execOp a.eval o).run P w = .ok (.value (.slice (some ⟨w.heap.size, 0, none⟩) len len)) (w.alloc (.cells cells' e)) := by
      have hcap : ¬ (len * sz > 2 ^ 24) := by omega
      by_cases h0 : len * sz = 0
      · have h7 : (Array.range (len * sz)).map (fun x => (#[] : Array Value)[x % (#[] : Array Value).size]!) = (Array.range (len * sz)).map fun i => z.cells[i % z.cells.size]! := by rw [h0]; simp
        rw [← h7] at f2
        simp only [execOp, ho, Instr.buildSlice, run_underlying ht, hsz, hcap, if_false, Sem.run_bind, Sem.run_pure, Result.andThen_ok, Sem.run_ite, if_pos h0, h6, f2, newRow, run_newObj, World.alloc_eq]
      · simp only [execOp, ho, Instr.buildSlice, run_underlying ht, hsz, hcap, if_false, Sem.run_bind, Sem.run_pure, Result.andThen_ok, Sem.run_ite, if_neg h0, hz, h6, f2, newRow, run_newObj, World.alloc_eq]
    unfold Oper.wp
    rw [hrun, Oper.upon_value]
    have hlz : es.length = len := by rw [← hes, O9]
    refine ⟨_, _, R, trivial, rfl, Z3 (u7 (sz := sz) (m := len) (cap := len) (es := es) h1 hlz (Nat.le_refl _) (by have := Nat.le_of_ble_eq_true hl2; unfold maxLen; omega) (by rw [← Array.length_toList]; exact h5) (by rw [← hes]; exact hch.2) ?_) (List.perm_append_comm (l₁ := [_])), I2.refl _, rfl⟩
    rw [List.take_of_length_le (by rw [h5]; exact Nat.le_refl _), ← hes, hch.1]
    exact f3
theorem BF1 {ops : Array Oper} {rest : List Oper} {env : List (Nat × AV)} {K : G1 → Prop} {t e : TypeId} {p q : Operand} {d sz by' : Nat} {inf : TypeInfo} {z : Value} {v : Value} {es fs : List (List AV)} (i : Nat) (hg : o.guard = none) (ho : o.op = .call { callee := .builtin .append, args := #[p, q], argTypes := #[t, t] }) (hd : o.dst = some d) (hn : Nat.blt d n = true)
    (ht : P.underlying t = some (.slice e)) (hinf : P.info? e = some inf) (hz : inf.zero = some z) (hsz : inf.size = sz) (hby : inf.bytes = by') (hzs : z.cells.size = sz) (hpos : Nat.ble 1 sz = true) (hpos2 : Nat.ble 1 by' = true) (hp : Ev (getv · env) p (AV.is v)) (hq : J8 own (getv · env) q sz fs) (hne : fs ≠ []) (hi : own[i]? = some (.arr v e sz es))
    (hlen : (es.length + fs.length) * by' ≤ 140737488355328) (k : ∀ v', M7 P G n ops rest ⟨own.set i (.arr v' e sz (es ++ fs)), (d, AV.is v') :: env⟩ K) : M7 P G n ops (o :: rest) ⟨own, env⟩ K :=
  a8 hg fun w0 R0 R a w ⟨h1, h2, h3, h4⟩ => by
    have e1 : a.eval p = v := m2 (s := ⟨own, env⟩) (o := o) hp h2
    obtain ⟨hu, hsrc⟩ := hq G w0 R0 R a w h1 (fun t _ y hy => h2 t y hy)
    obtain ⟨ad, c, ns, e2, hn2, hn3⟩ := hsrc hne
    obtain ⟨hR, hue, xs, hown, hdc⟩ := h1.owned _ (C4 hi)
    have hb1 := Nat.le_of_ble_eq_true hpos
    have hb2 := Nat.le_of_ble_eq_true hpos2
    have hsum : es.length + fs.length ≤ 140737488355328 := Nat.le_trans (Nat.le_mul_of_pos_right _ hb2) hlen
    have hufs : ∀ x ∈ es ++ fs, x.length = sz := fun x hx => by
      rcases List.mem_append.1 hx with h | h
      · exact hue x h
      · exact hu x h
    have hnl : ns.length = fs.length * sz := by rw [hn3.1, W6 hu]
    have hone : ∀ u ∈ ns, u.oneCell' = true := fun u hm => by
      obtain ⟨j, hj⟩ := List.getElem?_of_mem hm
      have hjl : j < fs.flatten.length := by rw [← hn3.1]; exact (List.getElem?_eq_some_iff.1 hj).1
      exact (hn3.2 j u _ hj (List.getElem?_eq_getElem hjl)).2
    obtain ⟨v', w', hr, hown', hgr, _, hblk⟩ := run_append_own_at (P := P) w 0 t o.type e inf z sz by' ht hinf hz hsz hby hzs hb1 v es.length xs hown ad fs.length c ns hnl hn2 hone BD6 hlen (Nat.zero_le _)
    have hex : (execOp a.eval o).run P w = .ok (.value v') w' := by
      simp only [execOp, ho, resolve, invoke, builtin, Sem.run_bind, Sem.run_pure, Result.andThen_ok, List.map_toArray, List.map_cons, List.map_nil, e1, e2, hr]
    unfold Oper.wp
    rw [hex, Oper.upon_value, hd]
    refine ⟨_, R, k v', I2.refl _, AY8 h1 hi (fun b hb => ?_) ⟨fun b hb => ?_, hufs, xs ++ ns, ?_, ?_⟩ hgr, i0 h2 (I2.refl _) AG7 rfl, by rw [X6]; exact h3, by rw [U0]; exact h4⟩
    · simp only [Own.blk] at hb ⊢
      rcases hblk with h | h
      · exact .inl At8
      · rw [hb] at h; injection h with h; exact .inr h
    · rcases hblk with h | h
      · exact hR b At8
      · rw [hb] at h; injection h with h; subst h; exact AW1 h1.rle
    · rw [G3]; exact hown'
    · rw [List.flatten_append]; exact u6 hdc hn3
end
end Go.AV
namespace Go.AV
section
variable {P : Program} {G : Nat → Prop} {n : Nat} {own : List Own}
theorem N4 {t : List Own} {env : List (Nat × AV)} (k : Nat) (h : (own.drop k).Perm t) : Le G n ⟨own, env⟩ ⟨own.take k ++ t, env⟩ :=
  le_perm (by
    have := List.Perm.append_left (own.take k) h
    rw [List.take_append_drop] at this
    exact this)
theorem B5 {t : List Own} : t.Perm (t ++ []) := by rw [List.append_nil]
theorem J7 {t : List Own} : (t ++ []).Perm t := by rw [List.append_nil]
theorem Ah8 {sel rest : List Own} {is : List Nat} (h : pick own is = (sel, rest)) : own.Perm (sel ++ rest) := by
  induction is generalizing own sel rest with
  | nil => unfold pick at h; injection h with h1 h2; subst h1; subst h2; exact List.Perm.refl _
  | cons i is ih =>
    unfold pick at h
    cases hi : own[i]? with
    | none => rw [hi] at h; injection h with h1 h2; subst h1; subst h2; exact List.Perm.refl _
    | some x =>
      rw [hi] at h
      injection h with h1 h2; subst h1; subst h2
      exact (Ah1 hi).trans (List.Perm.cons x (ih rfl))
section
variable {o : Oper} {E : K5}
theorem Y9 {ops : Array Oper} {t e : TypeId} {p q : Operand} {sz by' m : Nat} {inf : TypeInfo} {z : Value} (ho : o.op = .makeSlice t p q)
    (ht : P.underlying t = some (.slice e)) (hinf : P.info? e = some inf) (hz : inf.zero = some z) (hsz : inf.size = sz) (hby : inf.bytes = by') (hzs : z.cells.size = sz) (hpos : Nat.ble 1 sz = true) (h1' : z.cells.toList.all Value.oneCell' = true) (hp : Ev E p (AV.int m)) (hq : Ev E q (AV.int m))
    (hlen : m * by' ≤ 281474976710656) (hlen2 : m ≤ 281474976710656) : OpE P G n own ops o E (fun _ : Value => True) (fun v' => own ++ [.arr v' e sz (List.replicate m (z.cells.toList.map zeroA))]) (fun v' => AV.is v') :=
  fun w0 R0 R a w h1 h3 h2 => by
    have e1 : a.eval p = .int .i64 m := AD3 (ops := ops) hp K8 h2
    have e2 : a.eval q = .int .i64 m := AD3 (ops := ops) hq K8 h2
    have hb1 := Nat.le_of_ble_eq_true hpos
    have hr := run_make (P := P) w t e inf z ht hinf hz .i64 .i64 (m : Int) (m : Int) qz8 qz8 (by rw [hby]; have h9 : ((m * by' : Nat) : Int) ≤ 281474976710656 := qz8; rw [Int.natCast_mul] at h9; rw [Int.mul_comm]; exact h9) qz8
    simp only [Int.toNat_natCast] at hr
    have hex : (execOp a.eval o).run P w = .ok (.value (.slice (some ⟨w.heap.size, 0, none⟩) m m)) (w.alloc (.cells (madeCells z.cells (m * inf.size)) e)) := by
      simp only [execOp, ho, e1, e2, hr, Sem.run_bind, Sem.run_pure, Result.andThen_ok]
    unfold Oper.wp
    rw [hex, Oper.upon_value]
    have hms : (madeCells z.cells (m * inf.size)).size = m * sz := by rw [size_madeCells, hsz]
    refine ⟨_, _, R, trivial, rfl, Z3 (u7 h1 S5 (Nat.le_refl _) BD6 hms (fun x hx => ?_) ⟨?_, fun j v x hv hx => ?_⟩) (List.perm_append_comm (l₁ := [_])), I2.refl _, rfl⟩
    · rw [(List.mem_replicate.1 hx).2]; simp [hzs]
    · rw [W6 (sz := sz) (fun x hx => by rw [(List.mem_replicate.1 hx).2]; simp [hzs])]
      simp [hms]
    · have hj : j < m * sz := by
        have := (List.getElem?_eq_some_iff.1 hx).1
        rw [W6 (sz := sz) (fun x hx => by rw [(List.mem_replicate.1 hx).2]; simp [hzs])] at this
        simpa using this
      have hjm : j % sz < sz := Nat.mod_lt _ qz8
      have hjj : j / sz * sz + j % sz = j := by rw [Nat.mul_comm]; exact Nat.div_add_mod j sz
      have hjd : j / sz < m := Nat.div_lt_of_lt_mul (by rw [Nat.mul_comm]; exact hj)
      have hzj : z.cells.toList[j % sz]? = some (z.cells.toList[j % sz]'qz126) := List.getElem?_eq_getElem _
      have hx2 := f5 (sz := sz) (es := List.replicate m (z.cells.toList.map zeroA)) (fun x hx => by rw [(List.mem_replicate.1 hx).2]; simp [hzs]) (i := j / sz) (e := z.cells.toList.map zeroA) qz187 (k := j % sz) (x := zeroA (z.cells.toList[j % sz]'qz126)) (by rw [List.getElem?_map, hzj]; rfl)
      rw [hjj, hx] at hx2
      injection hx2 with hx2
      rw [List.getElem?_take_of_lt hj] at hv
      have hv2 : v = z.cells.toList[j % sz]'qz126 := by
        unfold madeCells at hv
        rw [hsz] at hv
        simp only [Array.toList_map, Array.toList_range, List.getElem?_map, List.getElem?_range hj, Option.map_some, Option.some.injEq] at hv
        rw [← hv, hzs, getElem!_pos z.cells _ (by rw [hzs]; exact hjm)]
        simp
      rw [hx2, hv2]
      exact ⟨q8 R _, List.all_eq_true.1 h1' _ S5⟩
end
section
variable {α : Type} {ok : α → Prop} {O : α → List Own} {V : α → AV} {o : Oper}
theorem CF4 {ops : Array Oper} {rs : List Oper} {env : List (Nat × AV)} {K : G1 → Prop} {d : Nat} {f : FuncId} {args : Array Operand} {tys : Array TypeId} {ps : List Operand} {xs : List AV} {sel rest : List Own} {own' : α → List Own} (hg : o.guard = none) (ho : o.op = .call { callee := .value (.func f), args := args, argTypes := tys }) (hd : o.dst = some d) (hn : Nat.blt d n = true)
    (hc : ∀ (vs : Array Value) (w : World), (callFunc f vs).run P w = .ok (.enter f vs) w) (hps : args.toList = ps) (hp : own.Perm (sel ++ rest)) (hs : C9 P f xs sel ok O V) (he : EvL (getv · env) ps xs) (hq : ∀ a, (O a ++ rest).Perm (own' a))
    (k : ∀ a, ok a → M7 P G n ops rs ⟨own' a, (d, V a) :: env⟩ K) : M7 P G n ops (o :: rs) ⟨own, env⟩ K :=
  a8 hg fun w0 R0 R a w ⟨h1, h2, h3, h4⟩ => by
    have hcore := Z3 h1 hp
    have hden := AJ9 (o := o) (fun t _ y hy => h2 t y hy) he fun p hp => by simp [ho, Op.operands, Call.operands]; right; rw [← hps] at hp; exact Array.mem_toList_iff.1 hp
    have hrun : (execOp a.eval o).run P w = .ok (.enter f (ps.map a.eval).toArray) w := by
      have hargs : args.map a.eval = (ps.map a.eval).toArray := by rw [← hps]; cases args; simp
      simp only [execOp, ho, resolve, hargs, show a.eval (.func f) = .func (.func f) #[] #[] from rfl]
      simp [Deferred.ofValue, invoke, hc]
    unfold Oper.wp
    rw [hrun, Oper.upon_enter]
    refine (hs R w _ hcore.rle hden (fun q hq => hcore.owned q (List.mem_append_left _ hq)) (W1 hcore).sep).mono fun e w' ⟨x, v, R', e0, e1, e2, e3⟩ => ?_
    subst e1
    have hR := u3 hcore.rle e3.rold
    refine ⟨⟨own' x, (d, V x) :: env⟩, R', k x e0, hR, Z3 (AM2 hcore e3) (hq x), ?_, by rw [X6]; exact h3, by rw [U0]; exact h4⟩
    rw [hd]
    exact i0 h2 hR AG7 e2
theorem Y2 {ops : Array Oper} {E : K5} {rest : List Own} (m : Nat) (h : OpE P G n own ops o E ok (fun a => rest ++ O a) V) : OpE P G n own ops o E ok (fun a => rest.take m ++ (O a ++ rest.drop m)) V := fun w0 R0 R a w h1 h2 h3 =>
  Oper.wp_mono2 (fun a' w' ⟨x, v, R', e0, e1, e2, e3, e4⟩ => ⟨x, v, R', e0, e1, Z3 e2 (by
    show (rest ++ O x).Perm (rest.take m ++ (O x ++ rest.drop m))
    conv => lhs; rw [← List.take_append_drop m rest]
    rw [List.append_assoc]
    exact List.Perm.append_left _ List.perm_append_comm), e3, e4⟩) (fun _ _ _ h => h) (h w0 R0 R a w h1 h2 h3)
theorem S3 {ops : Array Oper} {E : K5} {W' : α → List Own} {g : α → Value} {e : TypeId} {sz : Nat} {es : List (List AV)} (i : Nat) (hg : ∀ a, (W' a)[i]? = some (.arr (g a) e sz es)) (h : OpE P G n own ops o E ok W' V) : OpE P G n own ops o E (fun a => ok a ∧ (g a).oneCell' = true) W' V := fun w0 R0 R a w h1 h2 h3 =>
  Oper.wp_mono2 (fun a' w' ⟨x, v, R', e0, e1, e2, e3, e4⟩ => ⟨x, v, R', ⟨e0, Bt9 (e2.owned _ (C4 (hg x)))⟩, e1, e2, e3, e4⟩) (fun _ _ _ h => h) (h w0 R0 R a w h1 h2 h3)
theorem T2 {ops : Array Oper} {E : K5} {t : TypeId} {z : Value} (ho : o.op = .alloc t)
    (hz : ∀ w, (zeroValue t).run P w = .ok z w) (h1' : z.cells.toList.all Value.oneCell' = true) : OpE P G n own ops o E (fun _ : Nat => True) (fun b => own ++ [.box b t (z.cells.toList.map zeroA)]) (fun b => AV.ptr b 0) :=
  fun w0 R0 R a w h1 h3 h2 => by
    have hrun : (execOp a.eval o).run P w = .ok (.value (.pointer (some ⟨w.heap.size, 0, none⟩))) (w.alloc (.cells z.cells.toList.toArray t)) := by
      simp only [execOp, ho, Instr.alloc, newVar, newRow, hz, Array.toArray_toList, Sem.run_bind, Sem.run_pure, Result.andThen_ok, run_newObj, World.alloc_eq]
    unfold Oper.wp
    rw [hrun, Oper.upon_value]
    exact ⟨w.heap.size, _, R, trivial, rfl, Z3 (Ag5 h1 ⟨by simp, fun i v y hv hy => by
      rw [List.getElem?_map, hv] at hy
      simp at hy; subst hy
      exact ⟨q8 R v, List.all_eq_true.1 h1' v (C4 hv)⟩⟩) (List.perm_append_comm (l₁ := [_])), I2.refl _, rfl⟩
theorem W8 {ops : Array Oper} {E : K5} {t t' : TypeId} {p q : Operand} {b : Nat} {cs ys : List AV} {x : AV} (i : Nat) (ho : o.op = .store t p q) (hd : o.dst = none)
    (hp : Ev E p (AV.ptr b 0)) (hq : Ev E q x) (hx : c6 x ys) (hi : own[i]? = some (.box b t' cs)) (hs : ∀ w, (sizeOf t).run P w = .ok ys.length w) (hl' : Nat.beq ys.length cs.length = true) : OpE P G n own ops o E (fun _ : Unit => True) (fun _ => own.set i (.box b t' ys)) (fun _ => AV.int 0) :=
  fun w0 R0 R a w h1 h3 h2 => by
    have e1 : a.eval p = .pointer (some ⟨b, 0, none⟩) := AD3 (ops := ops) hp K8 h2
    have e2 := hx R _ (AD3 (ops := ops) hq K8 h2)
    have e := Nat.eq_of_beq_eq_true hl'
    obtain ⟨hR, vs, hb, hdc⟩ := h1.owned _ (C4 hi)
    have hsz : (a.eval q).cells.size = ys.length := by rw [← Array.length_toList]; exact e2.1
    have hst := AH0 (P := P) (t := t) (off := 0) (u := a.eval q) hb (by rw [hsz]; exact hs w) (by rw [hsz, hdc.1]; omega) (fun u hu => by
      obtain ⟨j, hj⟩ := List.getElem?_of_mem hu
      have hjl : j < ys.length := by rw [← e2.1]; exact (List.getElem?_eq_some_iff.1 hj).1
      exact (e2.2 j u _ hj (List.getElem?_eq_getElem hjl)).2)
    have hrun : (execOp a.eval o).run P w = .ok .skip (w.setRow b (vs.take 0 ++ (a.eval q).cells.toList ++ vs.drop (0 + (a.eval q).cells.size)).toArray) := by
      simp only [execOp, ho, e1, hst, Sem.run_bind, Sem.run_pure, Result.andThen_ok]
    unfold Oper.wp
    rw [hrun, Oper.upon_skip, hd]
    refine ⟨(), .int .i64 0, R, trivial, rfl, AC9 h1 hi rfl rfl ⟨hR, _, setRow_heap w b _ _ t' _ hb, ?_⟩ (j9 w b _), I2.refl _, rfl⟩
    rw [← Array.length_toList]
    have := AB4 (off := 0) hdc e2 qz8
    rw [BE5 e] at this
    exact this
theorem I1 {ops : Array Oper} {rs : List Oper} {env : List (Nat × AV)} {K : G1 → Prop} {d : Nat} {f : FuncId} {args : Array Operand} {tys : Array TypeId} {ps : List Operand} {xs : List AV} {s1 r1 : List Own} (is : List Nat) (m j : Nat) (B D : List Own) (NT : α → List Own) (hg : o.guard = none) (ho : o.op = .call { callee := .value (.func f), args := args, argTypes := tys }) (hd : o.dst = some d) (hn : Nat.blt d n = true)
    (hc : ∀ (vs : Array Value) (w : World), (callFunc f vs).run P w = .ok (.enter f vs) w) (hps : args.toList = ps) (hp : pick own is = (s1, r1)) (hB : (r1.drop m).Perm (B ++ D)) (hs : C9 P f xs (s1 ++ B) ok O V) (he : EvL (getv · env) ps xs) (hN : ∀ a, ((O a).drop j ++ D).Perm (NT a))
    (k : ∀ a, ok a → M7 P G n ops rs ⟨(O a).take j ++ (r1.take m ++ NT a), (d, V a) :: env⟩ K) : M7 P G n ops (o :: rs) ⟨own, env⟩ K := by
  refine CF4 (sel := s1 ++ B) (rest := r1.take m ++ D) (own' := fun a => (O a).take j ++ (r1.take m ++ NT a)) hg ho hd hn hc hps ?_ hs he (fun a => ?_) k
  · refine (Ah8 hp).trans ?_
    have h1 : r1.Perm (r1.take m ++ (B ++ D)) := by
      have := List.Perm.append_left (r1.take m) hB
      rwa [List.take_append_drop] at this
    refine (List.Perm.append_left s1 h1).trans ?_
    rw [List.append_assoc]
    refine List.Perm.append_left s1 ?_
    rw [← List.append_assoc, ← List.append_assoc]
    exact List.Perm.append_right D List.perm_append_comm
  · have h1 : (O a ++ (r1.take m ++ D)).Perm ((O a).take j ++ (r1.take m ++ ((O a).drop j ++ D))) := by
      conv => lhs; rw [← List.take_append_drop j (O a)]
      rw [List.append_assoc]
      refine List.Perm.append_left _ ?_
      rw [← List.append_assoc, ← List.append_assoc]
      exact List.Perm.append_right D List.perm_append_comm
    exact h1.trans (List.Perm.append_left _ (List.Perm.append_left _ (hN a)))
theorem H3 {fn : Func} {s : G1} {sel rest : List Own} (is : List Nat) (m : Nat) (B D : List Own) (x : α) (hx : ok x) (hp : pick s.own is = (sel, rest)) (hB : (rest.drop m).Perm (B ++ D)) (ho : O x = sel ++ B) (h : ∀ w0 R0 R a w, St G n w0 R0 s R a w → ∃ v, (results fn a.tmps).run P w = .ok v w ∧ (V x).den R v) : H0 P G n fn s ok O V := fun w0 R0 R a w hs => by
  obtain ⟨v, h1, h2⟩ := h w0 R0 R a w hs
  refine ⟨x, v, R, hx, h1, h2, I2.refl _, ?_⟩
  rw [ho]
  refine W1 (b := rest.take m ++ D) (Z3 hs.1 ?_)
  refine (Ah8 hp).trans ?_
  have h1 : rest.Perm (rest.take m ++ (B ++ D)) := by
    have := List.Perm.append_left (rest.take m) hB
    rwa [List.take_append_drop] at this
  refine (List.Perm.append_left sel h1).trans ?_
  rw [List.append_assoc]
  refine List.Perm.append_left sel ?_
  rw [← List.append_assoc, ← List.append_assoc]
  exact List.Perm.append_right D List.perm_append_comm
end
end
inductive OT where
  | nil
  | pure (i : Nat) (t : OT)
  | e1 (i : Nat) (t : OT)
  | e2 (i : Nat) (t : OT) (j : Nat) (u : OT)
def OT.deep : OT → Nat → Bool
  | .nil, 0 => true
  | .pure _ t, f + 1 => t.deep f
  | .e1 _ t, f + 1 => t.deep f
  | .e2 _ t _ u, f + 1 => t.deep f && u.deep f
  | _, _ => false
def ordT (md : Region.Mode) (ops : Array Oper) (g m : Nat) : OT → Array Bool → Bool
  | .nil, listed => Region.seqB md ops g m listed
  | .pure i r, listed => (Region.ready md ops listed).contains i && Region.free md ops listed i && Nat.blt i m && ordT md ops g m r (listed.setIfInBounds i true)
  | .e1 i r, listed => decide (Region.ready md ops listed = [i]) && Nat.blt i m && ordT md ops g m r (listed.setIfInBounds i true)
  | .e2 i r j u, listed => decide (Region.ready md ops listed = [i, j]) && Nat.blt i m && Nat.blt j m && ordT md ops g m r (listed.setIfInBounds i true) && ordT md ops g m u (listed.setIfInBounds j true)
def treeB (md : Region.Mode) (ops : Array Oper) (m : Nat) (ord : OT) : Bool :=
  decide (m < ops.size) && ord.deep m && Region.sinkB md ops m && Region.chainB md ops m && ordT md ops (ops.size - m) m ord (Array.replicate ops.size false)
section
variable {P : Program} {G : Nat → Prop} {n : Nat}
def w3 (P : Program) (G : Nat → Prop) (n : Nat) (Inv : List Own → Prop) (ops : Array Oper) (i : Nat) (env : List (Nat × AV)) (W : List Own) (K : List (Nat × AV) → List Own → Prop) : Prop :=
  ∃ o, ops[i]? = some o ∧ o.guard = none ∧ ∃ (α : Type) (ok : α → Prop) (W' : α → List Own) (V : α → AV), OpE P G n W ops o (getv · env) ok W' V ∧ (∀ a, ok a → Inv (W' a)) ∧ ∀ a, ok a → K (putv o.dst (V a) env) (W' a)
def BT (P : Program) (G : Nat → Prop) (n : Nat) (Inv : List Own → Prop) (ops : Array Oper) : OT → List (Nat × AV) → List Own → (List (Nat × AV) → List Own → Prop) → Prop
  | .nil, env, W, K => K env W
  | .pure i r, env, W, K => ∃ o, ops[i]? = some o ∧ ∃ x, (∀ W', Inv W' → OpA P G n W' ops o (getv · env) x) ∧ BT P G n Inv ops r (putv o.dst x env) W K
  | .e1 i r, env, W, K => w3 P G n Inv ops i env W fun env' W' => BT P G n Inv ops r env' W' K
  | .e2 i r j u, env, W, K => (w3 P G n Inv ops i env W fun env' W' => BT P G n Inv ops r env' W' K) ∧ w3 P G n Inv ops j env W fun env' W' => BT P G n Inv ops u env' W' K
theorem AR5 {Inv : List Own → Prop} {md : Region.Mode} {ops : Array Oper} {m g : Nat} {K : List (Nat × AV) → List Own → Prop} (hs : Region.sinkB md ops m = true) (hc : Region.chainB md ops m = true) (hn : m < ops.size) :
    ∀ (l : OT) (f : Nat) (listed : Array Bool) (env : List (Nat × AV)) (W : List Own), l.deep f = true → HeadInv md ops m listed → Inv W →
    ordT md ops g m l listed = true → BT P G n Inv ops l env W K →
    wpAnyB P G n Inv md ops m (fun listed' E W => Region.seqB md ops g m listed' = true ∧ ∃ env', E = (getv · env') ∧ K env' W) f listed (getv · env) W
  | .nil, 0, listed, env, W, _, _, _, hB, h => ⟨hB, env, rfl, h⟩
  | .nil, _ + 1, _, _, _, hdp, _, _, _, _ => by cases hdp
  | .pure _ _, 0, _, _, _, hdp, _, _, _, _ => by cases hdp
  | .e1 _ _, 0, _, _, _, hdp, _, _, _, _ => by cases hdp
  | .e2 _ _ _ _, 0, _, _, _, hdp, _, _, _, _ => by cases hdp
  | .pure i l, f + 1, listed, env, W, hdp, inv, hW, hB, h => by
    simp only [ordT, Bool.and_eq_true] at hB
    obtain ⟨⟨⟨hr, hf⟩, hlt⟩, hB'⟩ := hB
    have hkn : i < m := Nat.blt_eq.mp hlt
    have hr' : i ∈ Region.ready md ops listed := by simpa using hr
    obtain ⟨o, ho, x, hx, hK⟩ := h
    refine AW3 ho hs hc hn hkn (fun listed' E W hL => seqB_ready hL.1) f listed _ W inv hW (Region.free_spec ho hf) hr' hx ?_
    rw [← X2]
    exact AR5 hs hc hn l f _ _ W hdp (inv.set hr' hkn) hW hB' hK
  | .e1 i l, f + 1, listed, env, W, hdp, inv, hW, hB, h => by
    simp only [ordT, Bool.and_eq_true, decide_eq_true_eq] at hB
    obtain ⟨⟨hr, hlt⟩, hB'⟩ := hB
    have hkn : i < m := Nat.blt_eq.mp hlt
    have hr' : i ∈ Region.ready md ops listed := by rw [hr]; simp
    obtain ⟨o, ho, hg, α, ok, W', V, h1, h2, h3⟩ := h
    refine ⟨fun h0 => Au0, fun j hj => ?_⟩
    rw [hr] at hj
    have : j = i := by simpa using hj
    subst this
    refine ⟨hkn, ?_⟩
    unfold qB
    simp only [ho]
    refine .inr ⟨hg, α, ok, W', V, h1, h2, fun a ha => ?_⟩
    rw [← X2]
    exact AR5 hs hc hn l f _ _ (W' a) hdp (inv.set hr' hkn) (h2 a ha) hB' (h3 a ha)
  | .e2 i l k u, f + 1, listed, env, W, hdp, inv, hW, hB, h => by
    simp only [ordT, Bool.and_eq_true, decide_eq_true_eq] at hB
    obtain ⟨⟨⟨⟨hr, hlt⟩, hlt2⟩, hB'⟩, hB2⟩ := hB
    simp only [OT.deep, Bool.and_eq_true] at hdp
    have hkn : i < m := Nat.blt_eq.mp hlt
    have hkn2 : k < m := Nat.blt_eq.mp hlt2
    have hr' : i ∈ Region.ready md ops listed := by rw [hr]; simp
    have hr2 : k ∈ Region.ready md ops listed := by rw [hr]; simp
    obtain ⟨⟨o, ho, hg, α, ok, W', V, h1, h2, h3⟩, ⟨o', ho', hg', α', ok', W'', V', h1', h2', h3'⟩⟩ := h
    refine ⟨fun h0 => Au0, fun j hj => ?_⟩
    rw [hr] at hj
    simp only [List.mem_cons, List.not_mem_nil, or_false] at hj
    rcases hj with hj | hj
    · subst hj
      refine ⟨hkn, ?_⟩
      unfold qB
      simp only [ho]
      refine .inr ⟨hg, α, ok, W', V, h1, h2, fun a ha => ?_⟩
      rw [← X2]
      exact AR5 hs hc hn l f _ _ (W' a) hdp.1 (inv.set hr' hkn) (h2 a ha) hB' (h3 a ha)
    · subst hj
      refine ⟨hkn2, ?_⟩
      unfold qB
      simp only [ho']
      refine .inr ⟨hg', α', ok', W'', V', h1', h2', fun a ha => ?_⟩
      rw [← X2]
      exact AR5 hs hc hn u f _ _ (W'' a) hdp.2 (inv.set hr2 hkn2) (h2' a ha) hB2 (h3' a ha)
theorem Q8 {id : Nat} {l : List Oper} {Q : Exit → G1 → Prop} {env : List (Nat × AV)} {own : List Own} (base : List Own) (m : Nat) (ord : OT) (hm : P.follows .mixedOrders = true) (hB : treeB .any l.toArray m ord = true) (hd : dstOk n l = true) (hb : AC4 base own)
  (h : BT P G n (AC4 base) l.toArray ord env own (fun env' W => M7 P G n l.toArray (l.drop m) ⟨W, env'⟩ (Q .normal))) : AWP P G n (.region id l.toArray true) Q ⟨own, env⟩ := fun w0 R0 R a w ⟨h1, h2, h3, h4⟩ => by
 simp only [treeB, Bool.and_eq_true, decide_eq_true_eq] at hB
 obtain ⟨⟨⟨⟨hn, hdp⟩, hs⟩, hc⟩, hlex⟩ := hB
 have hn' : m < l.length := by simpa using hn
 have hdl : (l.drop m).length = l.toArray.size - m := by simp
 have inv0 : HeadInv .any l.toArray m (Array.replicate l.toArray.size false) :=
  ⟨by simp, fun j oj _ hl => Bc3, fun t _ ht => getD_in (by simpa using ht) (getD_replicate_false _ _)⟩
 have H := AR5 (g := l.toArray.size - m) hs hc hn ord m _ env own hdp inv0 hb hlex h
 refine wp_region_any hm ?_
 have := z5 (w0 := w0) (R0 := R0) (R00 := R) (g := l.toArray.size - m) (Q' := fun e a' w' => ∃ s' R', Q e s' ∧ I2 R R' ∧ St G n w0 R0 s' R' a' w') (fun i o ho d e => AM1 hd i o (by simpa using ho) d e) (fun listed E W R' a' w' g1 g2 g3 g4 g5 hL => by
  obtain ⟨hL1, env', rfl, hL2⟩ := hL
  have := wpAny_of_seq (P := P) (md := .any) (Q' := fun e a' w' => ∃ s' R', Q e s' ∧ I2 R R' ∧ St G n w0 R0 s' R' a' w') (l.drop m) m listed a' w' (fun j => by simp [List.getElem?_drop]) (by rw [hdl]; exact hL1)
   (m3 (R00 := R) (K := Q .normal) (fun s' R' a w q r1 r2 => ⟨s', R', q, r1, r2⟩) _ (⟨W, env'⟩ : G1) R' a' w' g1 ⟨g2, g3, g4, g5⟩ hL2)
  rwa [hdl] at this) _ _ _ own R a _ (I2.refl _) (AJ8 h1) h2 h3 h4 H
 rw [show m + (l.toArray.size - m) = l.toArray.size by omega] at this
 exact this
section
variable {ops : Array Oper} {i j : Nat} {o : Oper} {r u : OT} {env : List (Nat × AV)} {W : List Own} {base : List Own} {K : List (Nat × AV) → List Own → Prop} {d : Nat} {x : AV}
theorem bt_nil {Inv : List Own → Prop} (h : K env W) : BT P G n Inv ops .nil env W K := h
theorem K4 (ho : ops[i]? = some o) (hg : o.guard = none) (hd : o.dst = some d) (h : ∀ ext, OpW P G n (base ++ ext) o (getv · env) x) (k : BT P G n (AC4 base) ops r ((d, x) :: env) W K) : BT P G n (AC4 base) ops (.pure i r) env W K :=
  ⟨o, ho, x, fun W' ⟨ext, e⟩ => by subst e; exact AR2 hg (h ext), by rw [hd]; exact k⟩
theorem AD4 {c : Bool} (ho : ops[i]? = some o) (hd : o.dst = some d) (hg : F1 ops o (getv · env) c) (h : c = true → ∀ ext, OpW P G n (base ++ ext) o (getv · env) x) (k : BT P G n (AC4 base) ops r ((d, AV.whn c x) :: env) W K) : BT P G n (AC4 base) ops (.pure i r) env W K :=
  ⟨o, ho, _, fun W' ⟨ext, e⟩ => by subst e; exact BN6 hg fun hc => h hc ext, by rw [hd]; exact k⟩
theorem bt_e1 {Inv : List Own → Prop} (h : w3 P G n Inv ops i env W fun env' W' => BT P G n Inv ops r env' W' K) : BT P G n Inv ops (.e1 i r) env W K := h
theorem j5 {Inv : List Own → Prop} (h : w3 P G n Inv ops i env W fun env' W' => BT P G n Inv ops r env' W' K) (k : w3 P G n Inv ops j env W fun env' W' => BT P G n Inv ops u env' W' K) : BT P G n Inv ops (.e2 i r j u) env W K := ⟨h, k⟩
theorem c8 {Inv : List Own → Prop} {α : Type} {ok : α → Prop} {W' : α → List Own} {V : α → AV} (ho : ops[i]? = some o) (hg : o.guard = none) (hd : o.dst = none) (h : OpE P G n W ops o (getv · env) ok W' V) (hi : ∀ a, ok a → Inv (W' a)) (k : ∀ a, ok a → K env (W' a)) : w3 P G n Inv ops i env W K :=
  ⟨o, ho, hg, α, ok, W', V, h, hi, fun a ha => by rw [hd]; exact k a ha⟩
theorem F7 {Inv : List Own → Prop} {α : Type} {ok : α → Prop} {W' : α → List Own} {V : α → AV} (ho : ops[i]? = some o) (hg : o.guard = none) (hd : o.dst = some d) (h : OpE P G n W ops o (getv · env) ok W' V) (hi : ∀ a, ok a → Inv (W' a)) (k : ∀ a, ok a → K ((d, V a) :: env) (W' a)) : w3 P G n Inv ops i env W K :=
  ⟨o, ho, hg, α, ok, W', V, h, hi, fun a ha => by rw [hd]; exact k a ha⟩
end
end
section
variable {T X : Type} {cs : T → List AV} {ocs : T → X → List AV} {ow : T → X → List Own}
def nrows (ocs : T → X → List AV) (l : List T) (xs : List X) : List (List AV) := List.zipWith ocs l xs
def nin (ow : T → X → List Own) (l : List T) (xs : List X) : List Own := (List.zipWith ow l xs).flatten
theorem S6 {l : List T} {xs : List X} (h : xs.length = l.length) : (nrows ocs l xs).length = l.length := by unfold nrows; rw [List.length_zipWith]; omega
theorem P4 {l : List T} {xs : List X} {i : Nat} {p : T} {x : X} (hp : l[i]? = some p) (hx : xs[i]? = some x) : (nrows ocs l xs)[i]? = some (ocs p x) := by
  unfold nrows; rw [List.getElem?_zipWith, hp, hx]
theorem BF2 {l : List T} {xs : List X} {p : T} {x : X} (h : xs.length = l.length) : nrows ocs (l ++ [p]) (xs ++ [x]) = nrows ocs l xs ++ [ocs p x] := by
  unfold nrows; rw [List.zipWith_append h.symm]; rfl
theorem Bf1 {l : List T} {xs : List X} {p : T} {x : X} (h : xs.length = l.length) : (ow p x ++ nin ow l xs).Perm (nin ow (l ++ [p]) (xs ++ [x])) := by
  unfold nin; rw [List.zipWith_append h.symm, List.flatten_append]
  refine List.perm_append_comm.trans ?_
  simp
theorem AZ2 {l : List T} {i : Nat} {p : T} (h : l[i]? = some p) : l.take (i + 1) = l.take i ++ [p] := by rw [List.take_add_one, h]; rfl
theorem AI8 {l : List T} {xs : List X} {p : T} {x : X} {i : Nat} (hp : l[i]? = some p) (h : xs.length = i) : (ow p x ++ nin ow (l.take i) xs).Perm (nin ow (l.take (i + 1)) (xs ++ [x])) := by
  have hi := (List.getElem?_eq_some_iff.1 hp).1
  rw [AZ2 hp]
  exact Bf1 (by rw [h, G9]; omega)
theorem AF1 {l : List T} {xs : List X} {p : T} {x : X} {i : Nat} (hp : l[i]? = some p) (h : xs.length = i) : nrows ocs (l.take i) xs ++ [ocs p x] = nrows ocs (l.take (i + 1)) (xs ++ [x]) := by
  have hi := (List.getElem?_eq_some_iff.1 hp).1
  rw [AZ2 hp, BF2 (by rw [h, G9]; omega)]
theorem v9 {p : T} {x : X} : ∀ {l : List T} {xs : List X} {i : Nat}, l[i]? = some p → xs[i]? = some x → (nin ow l xs).Perm (ow p x ++ nin ow (l.eraseIdx i) (xs.eraseIdx i))
  | [], _, _, h, _ => by simp at h
  | _ :: _, [], _, _, h => by simp at h
  | q :: l, y :: xs, 0, hp, hx => by simp at hp hx; subst hp; subst hx; exact List.Perm.refl _
  | q :: l, y :: xs, i + 1, hp, hx => by
    have ih := v9 (l := l) (xs := xs) (i := i) (by simpa using hp) y8
    unfold nin at *
    simp only [List.zipWith_cons_cons, List.flatten_cons, Af8]
    refine (List.Perm.append_left (ow q y) ih).trans ?_
    rw [← List.append_assoc, ← List.append_assoc]
    exact List.Perm.append_right _ List.perm_append_comm
theorem Bu1 {p p' : T} {x : X} {l : List T} {xs : List X} {i : Nat} (hp : l[i]? = some p) (hx : xs[i]? = some x) : (ow p' x ++ nin ow (l.eraseIdx i) (xs.eraseIdx i)).Perm (nin ow (l.set i p') xs) := by
  have hi := (List.getElem?_eq_some_iff.1 hp).1
  have h := v9 (ow := ow) (l := l.set i p') (xs := xs) (i := i) (p := p') (x := x) (List.getElem?_set_self hi) hx
  rw [List.eraseIdx_set_eq] at h
  exact h.symm
theorem s4 {p : T} {x : X} : ∀ {l : List T} {xs : List X} {i : Nat}, l[i]? = some p → xs[i]? = some x → nrows ocs l xs = nrows ocs (l.take i) (xs.take i) ++ ocs p x :: nrows ocs (l.drop (i + 1)) (xs.drop (i + 1))
  | [], _, _, h, _ => by simp at h
  | _ :: _, [], _, _, h => by simp at h
  | q :: l, y :: xs, 0, hp, hx => by simp at hp hx; subst hp; subst hx; rfl
  | q :: l, y :: xs, i + 1, hp, hx => by
    have ih := s4 (p := p) (x := x) (l := l) (xs := xs) (i := i) (by simpa using hp) y8
    unfold nrows at *
    simp only [List.zipWith_cons_cons, AL9, AY5, AL8]
    rw [ih]
theorem Bx5 {p p' : T} {x : X} {l : List T} {xs : List X} {i : Nat} (hp : l[i]? = some p) (hx : xs[i]? = some x) : nrows ocs (l.take i) (xs.take i) ++ ocs p' x :: nrows ocs (l.drop (i + 1)) (xs.drop (i + 1)) = nrows ocs (l.set i p') xs := by
  have hi := (List.getElem?_eq_some_iff.1 hp).1
  rw [s4 (l := l.set i p') (i := i) (p := p') (x := x) (List.getElem?_set_self hi) hx, List.take_set_of_le (Nat.le_refl _), List.drop_set_of_lt qz8]
theorem q9 {p : T} {x : X} {l : List T} {xs : List X} {i : Nat} (hp : l[i]? = some p) (hx : xs[i]? = some x) : (nrows ocs (l.take i) (xs.take i)).length = i := by
  have h1 := (List.getElem?_eq_some_iff.1 hp).1
  have h2 := (List.getElem?_eq_some_iff.1 hx).1
  unfold nrows; rw [List.length_zipWith, G9, G9]; omega
theorem Ah9 {p : T} {x : X} {l : List T} {xs : List X} {i : Nat} {r : List AV} (hp : l[i]? = some p) (hx : xs[i]? = some x) (hl : xs.length = l.length) : (nrows ocs (l.take i) (xs.take i) ++ r :: nrows ocs (l.drop (i + 1)) (xs.drop (i + 1))).length = l.length := by
  have h1 := (List.getElem?_eq_some_iff.1 hp).1
  rw [G3, q9 hp hx, H4]
  unfold nrows; rw [List.length_zipWith, List.length_drop, List.length_drop]; omega
theorem Av0 {p : T} {x : X} {l : List T} {xs : List X} {i : Nat} (hp : l[i]? = some p) (hx : xs[i]? = some x) : ∀ o ∈ ow p x, o ∈ nin ow l xs := fun o ho => (v9 (ow := ow) (i := i) hp hx).mem_iff.2 (List.mem_append_left _ ho)
theorem Ai0 {own : List Own} {v : Value} {t : TypeId} {sz : Nat} {l : List T} {xs : List X} (hlc : ∀ p x, (∀ o ∈ ow p x, o ∈ own) → X9 own (ocs p x) (cs p)) (hlen : xs.length = l.length) (i : Nat) (hi : own[i]? = some (.arr v t sz (nrows ocs l xs))) (hm : ∀ o ∈ nin ow l xs, o ∈ own) : e6 own (AV.is v) (AV.list sz (l.map cs)) :=
  J5 (C4 hi) ⟨by rw [S6 hlen, A5], fun j a b ha hb => by
    rw [List.getElem?_map] at hb
    cases hp : l[j]? with
    | none => rw [hp] at hb; cases hb
    | some p =>
      rw [hp] at hb
      have hj := (List.getElem?_eq_some_iff.1 hp).1
      obtain ⟨x, hx⟩ : ∃ x, xs[j]? = some x := ⟨_, List.getElem?_eq_getElem qz8⟩
      rw [P4 hp hx] at ha
      injection ha with ha; injection hb with hb; subst ha; subst hb
      exact hlc p x fun o ho => hm o (Av0 hp hx o ho)⟩
end
section
variable {T : Type}
def marksN (mk : T → Int → T) (mn : T → Int → Int) : List T → Int → List T
  | [], _ => []
  | p :: l, k => mk p k :: marksN mk mn l (mn p k)
variable {mk : T → Int → T} {mn : T → Int → Int}
theorem Ai1 : ∀ (l : List T) (k : Int), (marksN mk mn l k).length = l.length
  | [], _ => rfl
  | p :: l, k => by unfold marksN; simp [Ai1 l]
end
section
variable {P : Program} {G : Nat → Prop} {n : Nat} {own : List Own} {o : Oper}
theorem AZ3 {rest : List Own} : ∀ b, (fun _ : Nat => False) b → b ∈ rest.filterMap Own.blk := fun _ h => h.elim
theorem O0 {rest : List Own} : ∀ b, AB2 [] b → b ∈ rest.filterMap Own.blk := fun _ ⟨_, h, _⟩ => by simp at h
theorem f9 {q q' : Own} {ow rest : List Own} (i : Nat) (h : rest[i]? = some q') (hb : Own.blk q = Own.blk q') (k : ∀ b, AB2 ow b → b ∈ rest.filterMap Own.blk) : ∀ b, AB2 (q :: ow) b → b ∈ rest.filterMap Own.blk := fun b ⟨x, hx, hxb⟩ => by
  rcases List.mem_cons.1 hx with rfl | hx
  · exact List.mem_filterMap.2 ⟨q', C4 h, hb ▸ hxb⟩
  · exact k b ⟨x, hx, hxb⟩
theorem Ai2 {sel rest : List Own} {w0 : World} {R0 R : F5} {w : World} (h : P0 G w0 R0 (sel ++ rest) R w) (hG : ∀ b, G b → b ∈ rest.filterMap Own.blk) : P0 G w0 R0 rest (lend sel w R) w := by
  have hl := W1 h
  refine ⟨h.os, h.tape, h.output, h.size, h.block, Au7 hl, fun b hb => ?_, fun q hq => ?_, fun q hq => h.fresh q (List.mem_append_right _ hq), (Ah2 h).sep⟩
  · unfold lend
    cases hob : ownB sel b with
    | true =>
      obtain ⟨x, hx, hxb⟩ := AD0 hob
      rcases h.fresh x (List.mem_append_left _ hx) b hxb with h1 | h1
      · omega
      · obtain ⟨y, hy, hyb⟩ := List.mem_filterMap.1 (hG b h1)
        exact absurd hyb (AR4 h.sep hx hy hxb)
    | false => exact h.rold b hb
  · have hk := h.owned q (List.mem_append_right _ hq)
    refine Own.ok_keep hk (m5 hl) fun b hb => ⟨rfl, ?_⟩
    unfold lend
    cases hob : ownB sel b with
    | true =>
      obtain ⟨x, hx, hxb⟩ := AD0 hob
      exact absurd hb (AR4 h.sep hx hq hxb)
    | false => exact (Own.ok_blk hk hb).1
theorem g6 {env : List (Nat × AV)} {sel rest : List Own} {x y : AV} (is : List Nat) (t : Nat) (hp : pick own is = (sel, rest)) (ht : getv t env = some x) (hl : e6 sel x y) (hG : ∀ b, G b → b ∈ rest.filterMap Own.blk) : Le G n ⟨own, env⟩ ⟨rest, (t, y) :: env⟩ := fun w0 R0 R a w ⟨h1, h2, h3⟩ => by
  have hc := y5 h1 hp
  refine ⟨lend sel w R, m5 (W1 hc), Ai2 hc hG, fun k z hz => ?_, h3⟩
  simp only [getv] at hz
  by_cases hk : t = k
  · subst hk
    simp [Nat.beq_refl] at hz
    rw [← hz]
    exact hl G w0 R0 R w _ (W1 hc) (h2 t x ht)
  · rw [AE9 hk, cond_false] at hz
    exact z.mono (m5 (W1 hc)) (h2 k z hz)
theorem AW4 {ops : Array Oper} {rest : List Oper} {env : List (Nat × AV)} {K : G1 → Prop} {d : Nat} {c : Bool} (hd : o.dst = some d) (hn : Nat.blt d n = true) (hg : F1 ops o (getv · env) c)
    (ht : c = true → M7 P G n ops ({ o with guard := none } :: rest) ⟨own, env⟩ K) (hf : c = false → M7 P G n ops rest ⟨own, (d, AV.is undef) :: env⟩ K) : M7 P G n ops (o :: rest) ⟨own, env⟩ K := fun w0 R0 R a w hs => by
  have hgc := hg R a fun t _ y hy => hs.2.1 t y hy
  cases c with
  | true =>
    refine ⟨fun _ => ?_, fun hw => by rw [hgc] at hw; exact Bool.noConfusion hw⟩
    exact (ht rfl w0 R0 R a w hs).1 rfl
  | false =>
    refine ⟨fun hw => by rw [hgc] at hw; exact Bool.noConfusion hw, fun _ => ⟨_, R, hf rfl, I2.refl _, ?_⟩⟩
    obtain ⟨h1, h2, h3, h4⟩ := hs
    refine ⟨h1, ?_, by rw [X6]; exact h3, by rw [U0]; exact h4⟩
    have := j8 (d := o.dst) (x := AV.is undef) (v := undef) h2 (I2.refl R) (fun q e => by rw [h3]; rw [hd] at e; injection e with e; subst e; exact Nat.blt_eq.mp hn) rfl
    rw [hd] at this ⊢
    exact this
theorem BO3 {E : K5} {p : Operand} {b : Bool} {x : AV} (h : b = false) : BR1 E p b x := fun hb => by rw [h] at hb; cases hb
theorem evb_cloL {E : K5} {p : Operand} {f : FuncId} {xs ys : List AV} (h : Ev E p (AV.clo f xs)) (hl : X9 own xs ys) : EvB own E p (AV.clo f ys) := fun G w0 R0 R a w hc he => by
  obtain ⟨vs, h1, h2⟩ := h R a he
  refine ⟨vs, h1, h2.1.trans hl.1, fun i v y hv hy => ?_⟩
  have hi : i < xs.length := by rw [hl.1]; exact (List.getElem?_eq_some_iff.1 hy).1
  have hx := List.getElem?_eq_getElem hi
  exact hl.2 i _ y hx hy G w0 R0 R w v hc (h2.2 i v _ hv hx)
def bandI (x y : Int) : Int := IntKind.u64.wrap (((BitVec.ofInt IntKind.u64.bits x &&& BitVec.ofInt IntKind.u64.bits y).toNat : Nat) : Int)
theorem w_band {E : K5} {t ty : TypeId} {p q : Operand} {x y : Int} (ho : o.op = .binOp .and t p q ty) (hp : Ev E p (AV.ik .u64 x)) (hq : Ev E q (AV.ik .u64 y)) : OpW P G n own o E (AV.ik .u64 (bandI x y)) := K9 fun R a w _ he => by
  have h1 : a.eval p = .int .u64 x := G0 hp K8 he
  have h2 : a.eval q = .int .u64 y := G0 hq K8 he
  exact ⟨.int .u64 (bandI x y), by simp only [execOp, ho, h1, h2]; simp [go_sem]; rfl, rfl⟩
theorem Q6 {ops : Array Oper} {E : K5} {x : AV} (h : OpW P G n own o E x) : OpE P G n own ops o E (fun _ : Unit => True) (fun _ => own) (fun _ => x) :=
  fun w0 R0 R a w h1 h2 h3 => Oper.wp_mono2 (fun a' w' ⟨v, R', e1, e2, e3, e4⟩ => ⟨(), v, R', trivial, e1, e2, e3, e4⟩) (fun _ _ _ h => h) (h w0 R0 R a w h1 h2 fun t ht => h3 t (AF0 ht))
end
end Go.AV
namespace Go.AV
open Go
inductive OT3 where
  | nil
  | pure (i : Nat) (t : OT3)
  | e1 (i : Nat) (t : OT3)
  | e2 (i : Nat) (t : OT3) (j : Nat) (u : OT3)
  | e3 (i : Nat) (t : OT3) (j : Nat) (u : OT3) (k : Nat) (v : OT3)
def OT3.deep : OT3 → Nat → Bool
  | .nil, 0 => true
  | .pure _ t, f + 1 => t.deep f
  | .e1 _ t, f + 1 => t.deep f
  | .e2 _ t _ u, f + 1 => t.deep f && u.deep f
  | .e3 _ t _ u _ v, f + 1 => (t.deep f && u.deep f) && v.deep f
  | _, _ => false
def AG1 (md : Region.Mode) (ops : Array Oper) (g m : Nat) : OT3 → Array Bool → Bool
  | .nil, listed => Region.seqB md ops g m listed
  | .pure i r, listed => (Region.ready md ops listed).contains i && Region.free md ops listed i && Nat.blt i m && AG1 md ops g m r (listed.setIfInBounds i true)
  | .e1 i r, listed => decide (Region.ready md ops listed = [i]) && Nat.blt i m && AG1 md ops g m r (listed.setIfInBounds i true)
  | .e2 i r j u, listed => decide (Region.ready md ops listed = [i, j]) && Nat.blt i m && Nat.blt j m && AG1 md ops g m r (listed.setIfInBounds i true) && AG1 md ops g m u (listed.setIfInBounds j true)
  | .e3 i r j u k v, listed => decide (Region.ready md ops listed = [i, j, k]) && Nat.blt i m && Nat.blt j m && Nat.blt k m && AG1 md ops g m r (listed.setIfInBounds i true) && AG1 md ops g m u (listed.setIfInBounds j true) && AG1 md ops g m v (listed.setIfInBounds k true)
def treeB3 (md : Region.Mode) (ops : Array Oper) (m : Nat) (ord : OT3) : Bool :=
  decide (m < ops.size) && ord.deep m && Region.sinkB md ops m && Region.chainB md ops m && AG1 md ops (ops.size - m) m ord (Array.replicate ops.size false)
section
variable {P : Program} {G : Nat → Prop} {n : Nat}
def BT3 (P : Program) (G : Nat → Prop) (n : Nat) (Inv : List Own → Prop) (ops : Array Oper) : OT3 → List (Nat × AV) → List Own → (List (Nat × AV) → List Own → Prop) → Prop
  | .nil, env, W, K => K env W
  | .pure i r, env, W, K => ∃ o, ops[i]? = some o ∧ ∃ x, (∀ W', Inv W' → OpA P G n W' ops o (getv · env) x) ∧ BT3 P G n Inv ops r (putv o.dst x env) W K
  | .e1 i r, env, W, K => w3 P G n Inv ops i env W fun env' W' => BT3 P G n Inv ops r env' W' K
  | .e2 i r j u, env, W, K => (w3 P G n Inv ops i env W fun env' W' => BT3 P G n Inv ops r env' W' K) ∧ w3 P G n Inv ops j env W fun env' W' => BT3 P G n Inv ops u env' W' K
  | .e3 i r j u k v, env, W, K => (w3 P G n Inv ops i env W fun env' W' => BT3 P G n Inv ops r env' W' K) ∧ (w3 P G n Inv ops j env W fun env' W' => BT3 P G n Inv ops u env' W' K) ∧ w3 P G n Inv ops k env W fun env' W' => BT3 P G n Inv ops v env' W' K
theorem r3 {Inv : List Own → Prop} {md : Region.Mode} {ops : Array Oper} {m g : Nat} {K : List (Nat × AV) → List Own → Prop} (hs : Region.sinkB md ops m = true) (hc : Region.chainB md ops m = true) (hn : m < ops.size) :
    ∀ (l : OT3) (f : Nat) (listed : Array Bool) (env : List (Nat × AV)) (W : List Own), l.deep f = true → HeadInv md ops m listed → Inv W →
    AG1 md ops g m l listed = true → BT3 P G n Inv ops l env W K →
    wpAnyB P G n Inv md ops m (fun listed' E W => Region.seqB md ops g m listed' = true ∧ ∃ env', E = (getv · env') ∧ K env' W) f listed (getv · env) W
  | .nil, 0, listed, env, W, _, _, _, hB, h => ⟨hB, env, rfl, h⟩
  | .nil, _ + 1, _, _, _, hdp, _, _, _, _ => by cases hdp
  | .pure _ _, 0, _, _, _, hdp, _, _, _, _ => by cases hdp
  | .e1 _ _, 0, _, _, _, hdp, _, _, _, _ => by cases hdp
  | .e2 _ _ _ _, 0, _, _, _, hdp, _, _, _, _ => by cases hdp
  | .e3 _ _ _ _ _ _, 0, _, _, _, hdp, _, _, _, _ => by cases hdp
  | .pure i l, f + 1, listed, env, W, hdp, inv, hW, hB, h => by
    simp only [AG1, Bool.and_eq_true] at hB
    obtain ⟨⟨⟨hr, hf⟩, hlt⟩, hB'⟩ := hB
    have hkn : i < m := Nat.blt_eq.mp hlt
    have hr' : i ∈ Region.ready md ops listed := by simpa using hr
    obtain ⟨o, ho, x, hx, hK⟩ := h
    refine AW3 ho hs hc hn hkn (fun listed' E W hL => seqB_ready hL.1) f listed _ W inv hW (Region.free_spec ho hf) hr' hx ?_
    rw [← X2]
    exact r3 hs hc hn l f _ _ W hdp (inv.set hr' hkn) hW hB' hK
  | .e1 i l, f + 1, listed, env, W, hdp, inv, hW, hB, h => by
    simp only [AG1, Bool.and_eq_true, decide_eq_true_eq] at hB
    obtain ⟨⟨hr, hlt⟩, hB'⟩ := hB
    have hkn : i < m := Nat.blt_eq.mp hlt
    have hr' : i ∈ Region.ready md ops listed := by rw [hr]; simp
    obtain ⟨o, ho, hg, α, ok, W', V, h1, h2, h3⟩ := h
    refine ⟨fun h0 => Au0, fun j hj => ?_⟩
    rw [hr] at hj
    have : j = i := by simpa using hj
    subst this
    refine ⟨hkn, ?_⟩
    unfold qB
    simp only [ho]
    refine .inr ⟨hg, α, ok, W', V, h1, h2, fun a ha => ?_⟩
    rw [← X2]
    exact r3 hs hc hn l f _ _ (W' a) hdp (inv.set hr' hkn) (h2 a ha) hB' (h3 a ha)
  | .e2 i l k u, f + 1, listed, env, W, hdp, inv, hW, hB, h => by
    simp only [AG1, Bool.and_eq_true, decide_eq_true_eq] at hB
    obtain ⟨⟨⟨⟨hr, hlt⟩, hlt2⟩, hB'⟩, hB2⟩ := hB
    simp only [OT3.deep, Bool.and_eq_true] at hdp
    have hkn : i < m := Nat.blt_eq.mp hlt
    have hkn2 : k < m := Nat.blt_eq.mp hlt2
    have hr' : i ∈ Region.ready md ops listed := by rw [hr]; simp
    have hr2 : k ∈ Region.ready md ops listed := by rw [hr]; simp
    obtain ⟨⟨o, ho, hg, α, ok, W', V, h1, h2, h3⟩, ⟨o', ho', hg', α', ok', W'', V', h1', h2', h3'⟩⟩ := h
    refine ⟨fun h0 => Au0, fun j hj => ?_⟩
    rw [hr] at hj
    simp only [List.mem_cons, List.not_mem_nil, or_false] at hj
    rcases hj with hj | hj
    · subst hj
      refine ⟨hkn, ?_⟩
      unfold qB
      simp only [ho]
      refine .inr ⟨hg, α, ok, W', V, h1, h2, fun a ha => ?_⟩
      rw [← X2]
      exact r3 hs hc hn l f _ _ (W' a) hdp.1 (inv.set hr' hkn) (h2 a ha) hB' (h3 a ha)
    · subst hj
      refine ⟨hkn2, ?_⟩
      unfold qB
      simp only [ho']
      refine .inr ⟨hg', α', ok', W'', V', h1', h2', fun a ha => ?_⟩
      rw [← X2]
      exact r3 hs hc hn u f _ _ (W'' a) hdp.2 (inv.set hr2 hkn2) (h2' a ha) hB2 (h3' a ha)
  | .e3 i l k u q v, f + 1, listed, env, W, hdp, inv, hW, hB, h => by
    simp only [AG1, Bool.and_eq_true, decide_eq_true_eq] at hB
    obtain ⟨⟨⟨⟨⟨⟨hr, hlt⟩, hlt2⟩, hlt3⟩, hB'⟩, hB2⟩, hB3⟩ := hB
    simp only [OT3.deep, Bool.and_eq_true] at hdp
    have hkn : i < m := Nat.blt_eq.mp hlt
    have hkn2 : k < m := Nat.blt_eq.mp hlt2
    have hkn3 : q < m := Nat.blt_eq.mp hlt3
    have hr' : i ∈ Region.ready md ops listed := by rw [hr]; simp
    have hr2 : k ∈ Region.ready md ops listed := by rw [hr]; simp
    have hr3 : q ∈ Region.ready md ops listed := by rw [hr]; simp
    obtain ⟨⟨o, ho, hg, α, ok, W', V, h1, h2, h3⟩, ⟨o', ho', hg', α', ok', W'', V', h1', h2', h3'⟩, ⟨o3, ho3, hg3, α3, ok3, W3, V3, h13, h23, h33⟩⟩ := h
    refine ⟨fun h0 => Au0, fun j hj => ?_⟩
    rw [hr] at hj
    simp only [List.mem_cons, List.not_mem_nil, or_false] at hj
    rcases hj with hj | hj | hj
    · subst hj
      refine ⟨hkn, ?_⟩
      unfold qB
      simp only [ho]
      refine .inr ⟨hg, α, ok, W', V, h1, h2, fun a ha => ?_⟩
      rw [← X2]
      exact r3 hs hc hn l f _ _ (W' a) hdp.1.1 (inv.set hr' hkn) (h2 a ha) hB' (h3 a ha)
    · subst hj
      refine ⟨hkn2, ?_⟩
      unfold qB
      simp only [ho']
      refine .inr ⟨hg', α', ok', W'', V', h1', h2', fun a ha => ?_⟩
      rw [← X2]
      exact r3 hs hc hn u f _ _ (W'' a) hdp.1.2 (inv.set hr2 hkn2) (h2' a ha) hB2 (h3' a ha)
    · subst hj
      refine ⟨hkn3, ?_⟩
      unfold qB
      simp only [ho3]
      refine .inr ⟨hg3, α3, ok3, W3, V3, h13, h23, fun a ha => ?_⟩
      rw [← X2]
      exact r3 hs hc hn v f _ _ (W3 a) hdp.2 (inv.set hr3 hkn3) (h23 a ha) hB3 (h33 a ha)
theorem BB6 {id : Nat} {l : List Oper} {Q : Exit → G1 → Prop} {env : List (Nat × AV)} {own : List Own} (base : List Own) (m : Nat) (ord : OT3) (hm : P.follows .mixedOrders = true) (hB : treeB3 .any l.toArray m ord = true) (hd : dstOk n l = true) (hb : AC4 base own)
  (h : BT3 P G n (AC4 base) l.toArray ord env own (fun env' W => M7 P G n l.toArray (l.drop m) ⟨W, env'⟩ (Q .normal))) : AWP P G n (.region id l.toArray true) Q ⟨own, env⟩ := fun w0 R0 R a w ⟨h1, h2, h3, h4⟩ => by
 simp only [treeB3, Bool.and_eq_true, decide_eq_true_eq] at hB
 obtain ⟨⟨⟨⟨hn, hdp⟩, hs⟩, hc⟩, hlex⟩ := hB
 have hn' : m < l.length := by simpa using hn
 have hdl : (l.drop m).length = l.toArray.size - m := by simp
 have inv0 : HeadInv .any l.toArray m (Array.replicate l.toArray.size false) :=
  ⟨by simp, fun j oj _ hl => Bc3, fun t _ ht => getD_in (by simpa using ht) (getD_replicate_false _ _)⟩
 have H := r3 (g := l.toArray.size - m) hs hc hn ord m _ env own hdp inv0 hb hlex h
 refine wp_region_any hm ?_
 have := z5 (w0 := w0) (R0 := R0) (R00 := R) (g := l.toArray.size - m) (Q' := fun e a' w' => ∃ s' R', Q e s' ∧ I2 R R' ∧ St G n w0 R0 s' R' a' w') (fun i o ho d e => AM1 hd i o (by simpa using ho) d e) (fun listed E W R' a' w' g1 g2 g3 g4 g5 hL => by
  obtain ⟨hL1, env', rfl, hL2⟩ := hL
  have := wpAny_of_seq (P := P) (md := .any) (Q' := fun e a' w' => ∃ s' R', Q e s' ∧ I2 R R' ∧ St G n w0 R0 s' R' a' w') (l.drop m) m listed a' w' (fun j => by simp [List.getElem?_drop]) (by rw [hdl]; exact hL1)
   (m3 (R00 := R) (K := Q .normal) (fun s' R' a w q r1 r2 => ⟨s', R', q, r1, r2⟩) _ (⟨W, env'⟩ : G1) R' a' w' g1 ⟨g2, g3, g4, g5⟩ hL2)
  rwa [hdl] at this) _ _ _ own R a _ (I2.refl _) (AJ8 h1) h2 h3 h4 H
 rw [show m + (l.toArray.size - m) = l.toArray.size by omega] at this
 exact this
section
variable {ops : Array Oper} {i j : Nat} {o : Oper} {r u : OT3} {env : List (Nat × AV)} {W : List Own} {base : List Own} {K : List (Nat × AV) → List Own → Prop} {d : Nat} {x : AV}
theorem bt3_nil {Inv : List Own → Prop} (h : K env W) : BT3 P G n Inv ops .nil env W K := h
theorem r4 (ho : ops[i]? = some o) (hg : o.guard = none) (hd : o.dst = some d) (h : ∀ ext, OpW P G n (base ++ ext) o (getv · env) x) (k : BT3 P G n (AC4 base) ops r ((d, x) :: env) W K) : BT3 P G n (AC4 base) ops (.pure i r) env W K :=
  ⟨o, ho, x, fun W' ⟨ext, e⟩ => by subst e; exact AR2 hg (h ext), by rw [hd]; exact k⟩
theorem bt3_e1 {Inv : List Own → Prop} (h : w3 P G n Inv ops i env W fun env' W' => BT3 P G n Inv ops r env' W' K) : BT3 P G n Inv ops (.e1 i r) env W K := h
theorem bt3_e3 {Inv : List Own → Prop} {q : Nat} {v : OT3} (h : w3 P G n Inv ops i env W fun env' W' => BT3 P G n Inv ops r env' W' K) (k : w3 P G n Inv ops j env W fun env' W' => BT3 P G n Inv ops u env' W' K) (k3 : w3 P G n Inv ops q env W fun env' W' => BT3 P G n Inv ops v env' W' K) : BT3 P G n Inv ops (.e3 i r j u q v) env W K := ⟨h, k, k3⟩
theorem Bf2 {Inv : List Own → Prop} (h : w3 P G n Inv ops i env W fun env' W' => BT3 P G n Inv ops r env' W' K) (k : w3 P G n Inv ops j env W fun env' W' => BT3 P G n Inv ops u env' W' K) : BT3 P G n Inv ops (.e2 i r j u) env W K := ⟨h, k⟩
end
end
section
variable {P : Program} {G : Nat → Prop} {n : Nat}
end
section
variable {P : Program} {G : Nat → Prop} {n : Nat} {own : List Own} {o : Oper}
theorem S8 {E : K5} {e : TypeId} {p : Operand} {k sz : Nat} {v : Value} {es : List (List AV)} {ys : List AV} (i : Nat) (ho : o.op = .nilCheck p) (hp : Ev E p (AV.is (elemPtr v (k * sz)))) (hi : own[i]? = some (.arr v e sz es)) (hy : es[k]? = some ys) (h0 : Nat.blt 0 sz = true) : OpW P G n own o E (AV.is (elemPtr v (k * sz))) := m4 fun w0 R0 R a w hc he => by
  have e1 : a.eval p = _ := G0 hp K8 he
  have hok := hc.owned _ (C4 hi)
  have hu := hok.2.1
  have hyl : ys.length = sz := hu ys (C4 hy)
  have hb1 := Nat.blt_eq.mp h0
  obtain ⟨g, u0, h1, _⟩ := AD2 hok (f5 hu hy (List.getElem?_eq_getElem (show 0 < ys.length by omega)))
  rw [Nat.add_zero] at h1
  rw [h1] at e1
  refine ⟨_, ?_, show elemPtr v (k * sz) = _ from rfl⟩
  rw [h1]
  simp only [execOp, ho, e1, Sem.run_pure]
end
end Go.AV
namespace Go.AV
section
variable {P : Program} {G : Nat → Prop} {n : Nat} {own : List Own} {o : Oper} {E : K5}
end
end Go.AV
namespace Go.AV
open Go.RowKit (Below)
section
variable {P : Program} {G : Nat → Prop} {n : Nat} {own : List Own} {o : Oper} {E : K5}
end
end Go.AV
namespace Go.AV
theorem L9 {α β : Type} {f : α → β} {l : List α} {i : Nat} {x : α} (h : l[i]? = some x) : (l.map f)[i]? = some (f x) := by rw [List.getElem?_map, h]; rfl
theorem B3 {α : Type} {l : List α} {i : Nat} {x y : α} (h : l[i]? = some y) : (l.set i x)[i]? = some x := List.getElem?_set_self (List.getElem?_eq_some_iff.1 h).1
section
variable {P : Program} {G : Nat → Prop} {n : Nat} {own : List Own} {o : Oper} {E : K5}
theorem X0 {f : FuncId} {args : Array Operand} {tys : Array TypeId} {ps : List Operand} {xs : List AV} {y : AV} {s1 r1 : List Own} (is : List Nat) (m : Nat) (B D : List Own) (ho : o.op = .call { callee := .value (.func f), args := args, argTypes := tys })
    (hc : ∀ (vs : Array Value) (w : World), (callFunc f vs).run P w = .ok (.enter f vs) w) (hps : args.toList = ps) (hp : pick own is = (s1, r1)) (hB : (r1.drop m).Perm (B ++ D)) (hs : C9 P f xs (s1 ++ B) (fun _ : Unit => True) (fun _ => s1 ++ B) (fun _ => y)) (he : EvL E ps xs) : OpW P G n own o E y := fun w0 R0 R a w hcore0 _ hen => by
  have hperm : own.Perm ((s1 ++ B) ++ (r1.take m ++ D)) := by
    refine (Ah8 hp).trans ?_
    have h1 : r1.Perm (r1.take m ++ (B ++ D)) := by
      have := List.Perm.append_left (r1.take m) hB
      rwa [List.take_append_drop] at this
    refine (List.Perm.append_left s1 h1).trans ?_
    rw [List.append_assoc]
    refine List.Perm.append_left s1 ?_
    rw [← List.append_assoc, ← List.append_assoc]
    exact List.Perm.append_right D List.perm_append_comm
  have hcore := Z3 hcore0 hperm
  have hd := AJ9 hen he fun p hp => by simp [ho, Op.operands, Call.operands]; right; rw [← hps] at hp; exact Array.mem_toList_iff.1 hp
  have hrun : (execOp a.eval o).run P w = .ok (.enter f (ps.map a.eval).toArray) w := by
    have hargs : args.map a.eval = (ps.map a.eval).toArray := by rw [← hps]; cases args; simp
    simp only [execOp, ho, resolve, hargs, show a.eval (.func f) = .func (.func f) #[] #[] from rfl]
    simp [Deferred.ofValue, invoke, hc]
  unfold Oper.wp
  rw [hrun, Oper.upon_enter]
  refine (hs R w _ hcore.rle hd (fun q hq => hcore.owned q (List.mem_append_left _ hq)) (W1 hcore).sep).mono fun e w' ⟨x, v, R', e0, e1, e2, e3⟩ => ?_
  subst e1
  exact ⟨v, R', rfl, Z3 (AM2 hcore e3) hperm.symm, u3 hcore.rle e3.rold, e2⟩
end
section
variable {P : Program} {G : Nat → Prop} {n : Nat} {own : List Own} {o : Oper}
def Al1 (sel : List Own) : Own → Own → Prop
  | .box b t cs, .box b' t' cs' => b = b' ∧ t = t' ∧ X9 sel cs cs'
  | .arr v t sz es, .arr v' t' sz' es' => v = v' ∧ t = t' ∧ sz = sz' ∧ AR1 sel es es'
  | .frz b t cs, .frz b' t' cs' => b = b' ∧ t = t' ∧ X9 sel cs cs'
  | .tab T, .tab T' => T = T'
  | _, _ => False
def Aa6 (sel own own' : List Own) : Prop := own.length = own'.length ∧ ∀ (i : Nat) (q q' : Own), own[i]? = some q → own'[i]? = some q' → Al1 sel q q'
theorem Ae0 {sel : List Own} : Aa6 sel [] [] := ⟨rfl, fun i q q' h => by simp at h⟩
theorem Av1 {sel a b : List Own} {q q' : Own} (h : Al1 sel q q') (k : Aa6 sel a b) : Aa6 sel (q :: a) (q' :: b) := ⟨by simp [k.1], fun i x y hx hy => by
  cases i with
  | zero => simp at hx hy; subst hx; subst hy; exact h
  | succ i => exact k.2 i x y y8 AQ0⟩
theorem oc_blk {sel : List Own} {q q' : Own} (h : Al1 sel q q') : Own.blk q = Own.blk q' := by
  cases q <;> cases q' <;> unfold Al1 at h
  · exact congrArg some h.1
  · exact h.elim
  · exact h.elim
  · exact h.elim
  · exact h.elim
  · exact congrArg Value.ownBlock h.1
  · exact h.elim
  · exact h.elim
  · exact h.elim
  · exact h.elim
  · exact congrArg some h.1
  · exact h.elim
  · exact h.elim
  · exact h.elim
  · exact h.elim
  · rfl
theorem oc_map {sel a b : List Own} (h : Aa6 sel a b) : a.map Own.blk = b.map Own.blk := by
  refine List.ext_getElem? fun i => ?_
  rw [List.getElem?_map, List.getElem?_map]
  cases ha : a[i]? with
  | none =>
    have : b[i]? = none := by rw [List.getElem?_eq_none_iff] at ha ⊢; rw [← h.1]; exact ha
    rw [this]
  | some q =>
    have hi : i < b.length := by rw [← h.1]; exact (List.getElem?_eq_some_iff.1 ha).1
    rw [List.getElem?_eq_getElem hi]
    exact congrArg some (oc_blk (h.2 i q _ ha (List.getElem?_eq_getElem hi)))
theorem oc_fm {sel a b : List Own} (h : Aa6 sel a b) : a.filterMap Own.blk = b.filterMap Own.blk := by
  have := congrArg (List.filterMap id) (oc_map h)
  rwa [List.filterMap_map, List.filterMap_map] at this
theorem Ao4 {sel : List Own} {xs ys : List AV} {w0 : World} {R0 R : F5} {w : World} {vs : List Value} (hc : P0 G w0 R0 sel R w) (h : X1 R vs xs) (k : X9 sel xs ys) : X1 (lend sel w R) vs ys :=
  ⟨h.1.trans k.1, fun i v y hv hy => by
    have hi : i < xs.length := by rw [k.1]; exact (List.getElem?_eq_some_iff.1 hy).1
    have hx := List.getElem?_eq_getElem hi
    obtain ⟨h1, h2⟩ := h.2 i v _ hv hx
    exact ⟨k.2 i _ y hx hy G w0 R0 R w v hc h1, h2⟩⟩
theorem Ai3 {sel rest rest' : List Own} {w0 : World} {R0 R : F5} {w : World} (h : P0 G w0 R0 (sel ++ rest) R w) (hG : ∀ b, G b → b ∈ rest.filterMap Own.blk) (hl : Aa6 sel rest rest') : P0 G w0 R0 rest' (lend sel w R) w := by
  have hb := Ai2 h hG
  have hs := W1 h
  refine ⟨hb.os, hb.tape, hb.output, hb.size, hb.block, hb.rle, hb.rold, fun q' hq' => ?_, fun q' hq' b hqb => ?_, ?_⟩
  · obtain ⟨i, hi⟩ := List.getElem?_of_mem hq'
    have hir : i < rest.length := by rw [hl.1]; exact (List.getElem?_eq_some_iff.1 hi).1
    have hr := List.getElem?_eq_getElem hir
    have hm := C4 hr
    have hoc := hl.2 i _ q' hr hi
    have k1 := hb.owned _ hm
    have k2 := h.owned _ (List.mem_append_right _ hm)
    revert hoc k1 k2
    generalize rest[i] = q
    intro hoc k1 k2
    cases q <;> cases q' <;> unfold Al1 at hoc
    · obtain ⟨rfl, rfl, hc⟩ := hoc
      obtain ⟨_, vs, hv, hd⟩ := k2
      exact ⟨k1.1, vs, hv, Ao4 hs hd hc⟩
    · exact hoc.elim
    · exact hoc.elim
    · exact hoc.elim
    · exact hoc.elim
    · obtain ⟨rfl, rfl, rfl, hc⟩ := hoc
      obtain ⟨_, hlen, xs, hx, hd⟩ := k2
      refine ⟨k1.1, fun e he => ?_, xs, ?_, Ao4 hs hd (BO1 hc)⟩
      · obtain ⟨j, hj⟩ := List.getElem?_of_mem he
        have hje := List.getElem?_eq_getElem (show j < _ from hc.1.symm ▸ (List.getElem?_eq_some_iff.1 hj).1)
        rw [← (hc.2 j _ e hje hj).1]
        exact hlen _ (C4 hje)
      · rw [← hc.1]; exact hx
    · exact hoc.elim
    · exact hoc.elim
    · exact hoc.elim
    · exact hoc.elim
    · obtain ⟨rfl, rfl, hc⟩ := hoc
      obtain ⟨_, vs, hv, hd⟩ := k2
      exact ⟨k1.1, vs, hv, Ao4 hs hd hc⟩
    · exact hoc.elim
    · exact hoc.elim
    · exact hoc.elim
    · exact hoc.elim
    · exact hoc ▸ k1
  · have hm : (some b) ∈ rest'.map Own.blk := List.mem_map.2 ⟨q', hq', hqb⟩
    rw [← oc_map hl] at hm
    obtain ⟨q, hq, hqb2⟩ := List.mem_map.1 hm
    exact hb.fresh q hq b hqb2
  · rw [← oc_fm hl]; exact hb.sep
theorem AB5 {α β : Type} {f : FuncId} {xs : List AV} {inw : List Own} {ok : α → Prop} {O : α → List Own} {V : α → AV} {ok' : β → Prop} {O' : β → List Own} {V' : β → AV} (g : α → β) (S rest : α → List Own) (hs : C9 P f xs inw ok O V)
    (hok : ∀ a, ok a → ok' (g a)) (hV : ∀ a, ok a → e6 (S a) (V a) (V' (g a))) (hp : ∀ a, ok a → (O a).Perm (S a ++ rest a)) (hG : ∀ a, ok a → ∀ b, AB2 inw b → b ∈ (rest a).filterMap Own.blk) (hl : ∀ a, ok a → Aa6 (S a) (rest a) (O' (g a))) : C9 P f xs inw ok' O' V' := fun R w vs hr hd ho hn =>
  (hs R w vs hr hd ho hn).mono fun e w' ⟨a, v, R', h0, h1, h2, h3⟩ => by
    have hc := Z3 h3 (hp a h0)
    exact ⟨g a, v, lend (S a) w' R', hok a h0, h1, hV a h0 _ _ _ R' w' v (W1 hc) h2, Ai3 hc (hG a h0) (hl a h0)⟩
theorem oc_refl {sel : List Own} (q : Own) : Al1 sel q q := by
  cases q with
  | box b t cs => exact ⟨rfl, rfl, i3⟩
  | arr v t sz es => exact ⟨rfl, rfl, rfl, F4⟩
  | frz b t cs => exact ⟨rfl, rfl, i3⟩
  | tab T => exact rfl
theorem oc_set {sel l : List Own} {i : Nat} {q q' : Own} (hi : l[i]? = some q) (hc : Al1 sel q q') : Aa6 sel l (l.set i q') := ⟨by simp, fun j x y hx hy => by
  by_cases h : i = j
  · subst h
    rw [List.getElem?_set_self (List.getElem?_eq_some_iff.1 hi).1] at hy
    rw [hi] at hx
    injection hx with hx; injection hy with hy; subst hx; subst hy; exact hc
  · rw [List.getElem?_set_ne h, hx] at hy
    injection hy with hy; subst hy; exact oc_refl _⟩
theorem AI9 {env : List (Nat × AV)} {q : Own} (k i : Nat) (q' : Own) (hi : (own.take k)[i]? = some q) (hc : Al1 (own.drop k) q q') (hG : ∀ b, G b → b ∈ (own.take k).filterMap Own.blk) : Le G n ⟨own, env⟩ ⟨(own.take k).set i q', env⟩ := fun w0 R0 R a w ⟨h1, h2, h3⟩ => by
  have h9 := List.perm_append_comm (l₁ := own.drop k) (l₂ := own.take k)
  rw [List.take_append_drop] at h9
  have hp : P0 G w0 R0 (own.drop k ++ own.take k) R w := Z3 h1 h9.symm
  exact ⟨lend (own.drop k) w R, m5 (W1 hp), Ai3 hp hG (oc_set hi hc), fun t z hz => z.mono (m5 (W1 hp)) (h2 t z hz), h3⟩
theorem AO3 {env : List (Nat × AV)} {sel rest : List Own} {q : Own} (is : List Nat) (i : Nat) (q' : Own) (hp : pick own is = (sel, rest)) (hi : rest[i]? = some q) (hc : Al1 sel q q') (hG : ∀ b, G b → b ∈ rest.filterMap Own.blk) : Le G n ⟨own, env⟩ ⟨rest.set i q', env⟩ := fun w0 R0 R a w ⟨h1, h2, h3⟩ => by
  have hk := y5 h1 hp
  exact ⟨lend sel w R, m5 (W1 hk), Ai3 hk hG (oc_set hi hc), fun t z hz => z.mono (m5 (W1 hk)) (h2 t z hz), h3⟩
section
variable {T X : Type} {ocs : T → X → List AV} {cs : T → List AV} {ow : T → X → List Own}
theorem AZ4 {own : List Own} {l : List T} {xs : List X} (hlc : ∀ p x, (∀ o ∈ ow p x, o ∈ own) → X9 own (ocs p x) (cs p)) (hlen : xs.length = l.length) (hm : ∀ o ∈ nin ow l xs, o ∈ own) : AR1 own (nrows ocs l xs) (l.map cs) := by
  refine ⟨by rw [S6 hlen, A5], fun j a b ha hb => ?_⟩
  rw [List.getElem?_map] at hb
  cases hp : l[j]? with
  | none => rw [hp] at hb; cases hb
  | some p =>
    rw [hp] at hb
    have hj := (List.getElem?_eq_some_iff.1 hp).1
    obtain ⟨x, hx⟩ : ∃ x, xs[j]? = some x := ⟨_, List.getElem?_eq_getElem qz8⟩
    rw [P4 hp hx] at ha
    injection ha with ha; injection hb with hb; subst ha; subst hb
    exact hlc p x fun o ho => hm o (Av0 hp hx o ho)
end
end
section
variable {P : Program} {G : Nat → Prop} {n : Nat} {own : List Own} {o : Oper}
theorem AF2 {ops : Array Oper} {E : K5} {p q : Operand} {v : Value} {e : TypeId} {sz : Nat} {es : List (List AV)} {k : Nat} {ys : List AV} {x : AV} (i : Nat) (ho : o.op = .store e p q) (hd : o.dst = none)
    (hp : Ev E p (AV.is (elemPtr v (k * sz)))) (hq : Ev E q x) (hx : c6 x ys) (hi : own[i]? = some (.arr v e sz es)) (hs : ∀ w, (sizeOf e).run P w = .ok sz w) (hys : ys.length = sz) (hl : k < es.length) :
    OpE P G n own ops o E (fun _ : Unit => True) (fun _ => own.set i (.arr v e sz (es.set k ys))) (fun _ => AV.int 0) :=
  fun w0 R0 R a w h1 h3 h2 => by
    have e1 : a.eval p = _ := AD3 (ops := ops) hp K8 h2
    have e2 := hx R _ (AD3 (ops := ops) hq K8 h2)
    obtain ⟨hR, hu, xs, hown, hdc⟩ := h1.owned _ (C4 hi)
    have hsz : (a.eval q).cells.size = ys.length := by rw [← Array.length_toList]; exact e2.1
    rcases hown.2 with ⟨rfl, hz⟩ | ⟨g, cap, cur, rfl, hbase, hg', hn, hm, hcs, htake⟩
    · rw [hz] at hl; simp at hl
    · have hfl : xs.length = es.length * sz := hown.1
      have hk1 : k * sz + sz ≤ es.length * sz := by
        have := Nat.mul_le_mul_right sz (show k + 1 ≤ es.length by omega)
        rwa [Nat.add_mul, Nat.one_mul] at this
      have hk2 : es.length * sz ≤ cap * sz := Nat.mul_le_mul_right sz hn
      have e3 : elemPtr (.slice (some ⟨g, 0, none⟩) es.length cap) (k * sz) = .pointer (some ⟨g, k * sz, none⟩) := by
        show Value.pointer (some (Addr.add ⟨g, 0, none⟩ (k * sz))) = _
        unfold Addr.add; split <;> simp_all
      have hcur : w.heap[g]? = some (.cells cur.toList.toArray e (0, 0)) := by simpa using hg'
      have hst := AH0 (P := P) (t := e) (off := k * sz) (u := a.eval q) hcur (by rw [hsz, hys]; exact hs w) (by rw [hsz, hys, Array.length_toList, hcs]; omega) (fun u hu => by
        obtain ⟨j, hj⟩ := List.getElem?_of_mem hu
        have hjl : j < ys.length := by rw [← e2.1]; exact (List.getElem?_eq_some_iff.1 hj).1
        exact (e2.2 j u _ hj (List.getElem?_eq_getElem hjl)).2)
      have hrun : (execOp a.eval o).run P w = .ok .skip (w.setRow g (cur.toList.take (k * sz) ++ (a.eval q).cells.toList ++ cur.toList.drop (k * sz + (a.eval q).cells.size)).toArray) := by
        simp only [execOp, ho, e1, e3, hst, Sem.run_bind, Sem.run_pure, Result.andThen_ok]
      unfold Oper.wp
      rw [hrun, Oper.upon_skip, hd]
      refine ⟨(), .int .i64 0, R, trivial, rfl, AC9 h1 hi rfl rfl ⟨hR, fun z hz => ?_, xs.take (k * sz) ++ (a.eval q).cells.toList ++ xs.drop (k * sz + (a.eval q).cells.toList.length), ⟨?_, .inr ⟨g, cap, _, by rw [List.length_set], hbase, setRow_heap w g _ _ e _ hg', by rw [List.length_set]; exact hn, hm, ?_, ?_⟩⟩, ?_⟩ (j9 w g _), I2.refl _, rfl⟩
      · rcases List.mem_or_eq_of_mem_set hz with h | h
        · exact hu z h
        · rw [h]; exact hys
      · rw [List.length_set]; simp; omega
      · simp; omega
      · rw [List.length_set, ← htake]
        have l1 : (a.eval q).cells.toList.length = sz := by rw [e2.1, hys]
        have l2 : (a.eval q).cells.size = sz := by rw [hsz, hys]
        have l3 : cur.toList.length = cap * sz := by rw [Array.length_toList, hcs]
        rw [← Array.length_toList]
        exact Ac0 qz8 (by rw [l1]; omega)
      · have hfe : (es.set k ys).flatten = splice es.flatten (k * sz) ys := Ax3 hu hys hl
        rw [hfe]
        refine AB4 hdc e2 ?_
        rw [W6 hu, hys]; exact hk1
end
end Go.AV
namespace Go.AV
open Go.RowKit (Below)
section
variable {P : Program} {G : Nat → Prop} {n : Nat} {own : List Own} {o : Oper} {E : K5}
def V9 (own : List Own) (E : K5) (q : Operand) (sz : Nat) (fs : List (List AV)) : Prop :=
  ∀ (G : Nat → Prop) (w0 : World) (R0 R : F5) (a : Act) (w : World), P0 G w0 R0 own R w → (∀ t, q = .tmp t → ∀ y, E t = some y → y.den R (a.tmps.getD t undef)) →
    (∀ f ∈ fs, f.length = sz) ∧ ∃ oa cap vs, a.eval q = .slice oa fs.length cap ∧ (fs ≠ [] → ∃ ad, oa = some ad ∧ (∀ j u, vs[j]? = some u → w.cell? (ad.add j) = some u) ∧ X1 R vs fs.flatten)
theorem Bf3 {α : Type} {f : α → List AV} {l : List α} {v : Value} {e : TypeId} {sz lo k : Nat} (hm : Own.arr v e sz (l.map f) ∈ own) (hlo : lo = k) (hk : k ≤ l.length) : e6 own (AV.is (AU8 lo sz v)) (AV.list sz ((l.drop k).map f)) := fun G w0 R0 R w u hc hu => by
  subst hlo
  cases (show u = AU8 lo sz v from hu)
  obtain ⟨_, _, xs, hown, _⟩ := hc.owned _ hm
  obtain ⟨oa, c, hv, hnc⟩ := Ag7 hown
  have h1 := J5 hm F4 G w0 R0 R w v hc rfl
  obtain ⟨oa', c', e1, k1, k2, k3, k4⟩ := h1
  subst e1
  have h9 := Ah0 (R := lend own w R) (lo := lo) (hi := (l.map f).length) (es := l.map f) (oa := oa') rfl k1 k2 k3 k4 (by rw [A5]; exact hk) (Nat.le_refl _)
  rw [List.take_length, ← List.map_drop] at h9
  exact h9
end
end Go.AV
namespace Go.AV
section
variable {P : Program} {G : Nat → Prop} {n : Nat} {own : List Own} {env : List (Nat × AV)} {fn : Func}
theorem Ao5 {sel : List Own} {cs : List AV} {sz : Nat} (j : Nat) (h : cs[j]? = some AV.nils) : X9 sel cs (cs.set j (AV.list sz [])) := ⟨by rw [List.length_set], fun i x y hx hy => by
  by_cases e : j = i
  · subst e
    rw [List.getElem?_set_self (List.getElem?_eq_some_iff.1 h).1] at hy
    rw [h] at hx
    injection hx with hx; injection hy with hy; subst hx; subst hy
    exact Au9
  · rw [List.getElem?_set_ne e, hx] at hy
    injection hy with hy; subst hy; exact H2⟩
theorem AD5 {o : Oper} {ops : Array Oper} {E : K5} {α : Type} {ok : α → Prop} {W' : α → List Own} {V : α → AV} {sel rest : α → List Own} {Y : α → AV} (is : List Nat) (hp : ∀ a, pick (W' a) is = (sel a, rest a)) (hl : ∀ a, e6 (sel a) (V a) (Y a)) (hG : ∀ a b, G b → b ∈ (rest a).filterMap Own.blk)
    (h : OpE P G n own ops o E ok W' V) : OpE P G n own ops o E ok rest Y := fun w0 R0 R a w h1 h2 h3 =>
  Oper.wp_mono2 (fun a' w' ⟨x, v, R', e0, e1, e2, e3, e4⟩ =>
    have hk := y5 e2 (hp x)
    ⟨x, v, lend (sel x) w' R', e0, e1, Ai2 hk (hG x), e3.trans (m5 (W1 hk)), hl x G w0 R0 R' w' v (W1 hk) e4⟩) (fun _ _ _ h => h) (h w0 R0 R a w h1 h2 h3)
theorem AF3 (i j sz : Nat) {b : Nat} {t : TypeId} {cs : List AV} (hi : own[i]? = some (.box b t cs)) (hj : cs[j]? = some AV.nils) (hG : ∀ b, G b → b ∈ own.filterMap Own.blk) : Le G n ⟨own, env⟩ ⟨own.set i (.box b t (cs.set j (AV.list sz []))), env⟩ :=
  AO3 [] i (.box b t (cs.set j (AV.list sz []))) rfl hi ⟨rfl, rfl, Ao5 j hj⟩ hG
theorem Bf4 {α : Type} {ok : α → Prop} {O : α → List Own} {V : α → AV} (i j sz : Nat) {b : Nat} {t : TypeId} {cs : List AV} (hi : own[i]? = some (.box b t cs)) (hj : cs[j]? = some AV.nils) (hG : ∀ b, G b → b ∈ own.filterMap Own.blk)
    (k : H0 P G n fn ⟨own.set i (.box b t (cs.set j (AV.list sz []))), env⟩ ok O V) : H0 P G n fn ⟨own, env⟩ ok O V := fun w0 R0 R a w hs => by
  have hle : Le G n ⟨own, env⟩ ⟨own.set i (.box b t (cs.set j (AV.list sz []))), env⟩ := AO3 [] i (.box b t (cs.set j (AV.list sz []))) rfl hi ⟨rfl, rfl, Ao5 j hj⟩ hG
  obtain ⟨R1, h1, h2⟩ := hle w0 R0 R a w hs
  obtain ⟨x, v, R2, g0, g1, g2, g3, g4⟩ := k w0 R0 R1 a w h2
  exact ⟨x, v, R2, g0, g1, g2, h1.trans g3, g4⟩
theorem Ac1 {y : AV} (i j sz : Nat) {b : Nat} {t : TypeId} {cs : List AV} (hi : own[i]? = some (.box b t cs)) (hj : cs[j]? = some AV.nils)
    (k : RetOk P (fun _ => False) n fn ⟨own.set i (.box b t (cs.set j (AV.list sz []))), env⟩ y) : RetOk P (fun _ => False) n fn ⟨own, env⟩ y := fun w0 R0 R a w hs => by
  have hle : Le (fun _ => False) n ⟨own, env⟩ ⟨own.set i (.box b t (cs.set j (AV.list sz []))), env⟩ := AO3 [] i (.box b t (cs.set j (AV.list sz []))) rfl hi ⟨rfl, rfl, Ao5 j hj⟩ AZ3
  obtain ⟨R1, h1, h2⟩ := hle w0 R0 R a w hs
  obtain ⟨v, R2, h3, h4, h5, h6⟩ := k w0 R0 R1 a w h2
  exact ⟨v, R2, h3, h4, h1.trans h5, h6⟩
end
section
variable {P : Program} {G : Nat → Prop} {n : Nat} {own : List Own} {o : Oper} {E : K5}
@[reducible] def byteC (b : UInt8) : List AV := [AV.ik .u8 b.toNat]
theorem BF3 : ∀ (bs : List UInt8), (bs.map byteC).flatten = bs.map fun b => AV.ik .u8 b.toNat
  | [] => rfl
  | b :: bs => by rw [List.map_cons, List.flatten_cons, BF3 bs]; rfl
theorem Bx6 {w : World} {oa : Option Addr} {c : Nat} {bs : List UInt8} {src dst e : TypeId} (hs : P.underlying src = some (.slice e)) (he : P.underlying e = some (.int .u8)) (hdst : P.underlying dst = some .string)
    (h : bs ≠ [] → ∃ a, oa = some a ∧ ∀ (j : Nat) (b : UInt8), bs[j]? = some b → w.cell? (a.add j) = some (.int .u8 b.toNat)) :
    (convert src dst (.slice oa bs.length c)).run P w = .ok (.string ⟨bs.toArray⟩) w := by
  cases oa with
  | none =>
    have hb : bs = [] := by
      cases bs with
      | nil => rfl
      | cons b t => obtain ⟨a, ha, _⟩ := h S5; cases ha
    subst hb
    exact Go.run_convert_bytes_nil (w := w) (P := P) src e hs he _ _ dst hdst
  | some a =>
    have hl : (loadCells a bs.length).run P w = .ok ((bs.map fun b => (b.toNat : Int)).map (Value.int .u8)).toArray w := by
      have := run_loadCells_list (P := P) (w := w) a ((bs.map fun b => (b.toNat : Int)).map (Value.int .u8)) (fun j v hj => by
        rw [List.getElem?_map, List.getElem?_map] at hj
        cases hb : bs[j]? with
        | none => rw [hb] at hj; cases hj
        | some b =>
          rw [hb] at hj
          injection hj with hj; subst hj
          obtain ⟨a', ha, hc⟩ := h (by intro hn; rw [hn] at hb; simp at hb)
          injection ha with ha; subst ha
          exact hc j b hb)
      simpa using this
    rw [Go.run_convert_bytes_string w src dst e _ _ c hs he hdst, Go.run_bytesToString w a bs.length c _ hl, Go.foldl_push_bytes]
    refine congrArg (fun b => Result.ok (Value.string b) w) ?_
    refine ByteArray.ext ?_
    apply Array.toList_inj.1
    simp [ByteArray.empty, ByteArray.emptyWithCapacity]
    show [] ++ bs.map (fun b => UInt8.ofNat (Int.toNat (b.toNat : Int))) = bs
    rw [List.nil_append]
    conv => rhs; rw [← List.map_id bs]
    refine List.map_congr_left fun b _ => ?_
    rw [Int.toNat_natCast]
    simp
theorem CF5 {R : F5} {w : World} {v : Value} {bs : List UInt8} {src dst e : TypeId} (hr : RLe R w) (hd : (AV.list 1 (bs.map byteC)).den R v) (hs : P.underlying src = some (.slice e)) (he : P.underlying e = some (.int .u8)) (hdst : P.underlying dst = some .string) :
    (convert src dst v).run P w = .ok (.string ⟨bs.toArray⟩) w := by
  obtain ⟨oa, c, rfl, h1, h2, _, h4⟩ := hd
  rw [A5]
  refine Bx6 hs he hdst fun hn => ?_
  obtain ⟨a, ha, hc⟩ := h4 (by intro hm; exact hn (List.map_eq_nil_iff.1 hm))
  refine ⟨a, ha, fun j b hb => ?_⟩
  rw [BF3] at hc
  obtain ⟨u, hu, hx, _⟩ := hc j (AV.ik .u8 b.toNat) (by rw [List.getElem?_map, hb]; rfl)
  rw [AM0 hr hu]
  exact congrArg some hx
theorem Bu2 {src dst e : TypeId} {p : Operand} {bs : List UInt8} (ho : o.op = .convert src dst p) (hs : P.underlying src = some (.slice e)) (he : P.underlying e = some (.int .u8)) (hd : P.underlying dst = some .string) (hp : Ev E p (AV.list 1 (bs.map byteC))) : OpW P G n own o E (AV.str bs) := K9 fun R a w hr hv => by
  have h1 := G0 hp K8 hv
  exact ⟨.string ⟨bs.toArray⟩, by simp [execOp, ho, CF5 hr h1 hs he hd], rfl⟩
end
end Go.AV
namespace Go.AV
open Go.Proofs
class UnC (t : Nat) (x : outParam (Option TypeDesc)) : Prop where
  h : Tryz.prog.underlying t = x
class SzC (t : Nat) (x : outParam Nat) : Prop where
  h : ∀ w, (sizeOf t).run Tryz.prog w = .ok x w
class AgC (t : Nat) (x : outParam Bool) : Prop where
  h : ∀ w, (isAgg t).run Tryz.prog w = .ok x w
class ZvC (t : Nat) (x : outParam Value) : Prop where
  h : ∀ w, (zeroValue t).run Tryz.prog w = .ok x w
class TyC (t : Nat) (x : outParam TypeInfo) : Prop where
  h : Tryz.prog.types[t]? = some x
class CaC (f : Nat) : Prop where
  h : ∀ (a : Array Value) (w : World), (callFunc f a).run Tryz.prog w = .ok (.enter f a) w
class PlC (t : Nat) (x : outParam (Array (Nat × Nat))) : Prop where
  h : ∃ fs, Tryz.prog.underlying t = some (.struct fs) ∧ ∀ w, (fs.mapM (m := Sem) fun f => do pure (f.offset, ← sizeOf f.type)).run Tryz.prog w = .ok x w
theorem plL {t : Nat} {x : Array (Nat × Nat)} [u : PlC t x] : ∃ fs, Tryz.prog.underlying t = some (.struct fs) ∧ ∀ w, (fs.mapM (m := Sem) fun f => do pure (f.offset, ← sizeOf f.type)).run Tryz.prog w = .ok x w := u.h
theorem unL {t : Nat} {x : Option TypeDesc} [u : UnC t x] : Tryz.prog.underlying t = x := u.h
theorem szL {t x : Nat} [u : SzC t x] : ∀ w, (sizeOf t).run Tryz.prog w = .ok x w := u.h
theorem agL {t : Nat} {x : Bool} [u : AgC t x] : ∀ w, (isAgg t).run Tryz.prog w = .ok x w := u.h
theorem zvL {t : Nat} {x : Value} [u : ZvC t x] : ∀ w, (zeroValue t).run Tryz.prog w = .ok x w := u.h
instance iU9 : UnC 9 (some Tryz.t9.desc) := ⟨M5⟩
instance iA5 : AgC 5 false := ⟨Tryz.isAgg5⟩
instance iZ255 : ZvC 255 (Value.agg #[Value.int IntKind.i64 0, Value.string (ByteArray.mk #[]), Value.bool false]) := ⟨Tryz.zeroValue255⟩
instance iU114 : UnC 114 (some Tryz.t114.desc) := ⟨i4⟩
instance iU55 : UnC 55 (some Tryz.t54.desc) := ⟨Tryz.underlying55⟩
instance iS110 : SzC 110 1 := ⟨Tryz.sizeOf110⟩
instance iU205 : UnC 205 (some Tryz.t205.desc) := ⟨M8⟩
instance iA56 : AgC 56 false := ⟨Tryz.isAgg56⟩
instance iA24 : AgC 24 false := ⟨Tryz.isAgg24⟩
instance iU226 : UnC 226 (some Tryz.t225.desc) := ⟨Tryz.underlying226⟩
instance iS47 : SzC 47 3 := ⟨E5⟩
instance iA79 : AgC 79 false := ⟨Tryz.isAgg79⟩
instance iU113 : UnC 113 (some Tryz.t113.desc) := ⟨K0⟩
instance iZ56 : ZvC 56 Value.nilFunc := ⟨Tryz.zeroValue56⟩
instance iS22 : SzC 22 1 := ⟨Tryz.sizeOf22⟩
instance iS176 : SzC 176 1 := ⟨p7⟩
instance iS143 : SzC 143 10 := ⟨N7⟩
instance iU221 : UnC 221 (some Tryz.t220.desc) := ⟨Tryz.underlying221⟩
instance iZ47 : ZvC 47 (Value.agg #[Value.string (ByteArray.mk #[]), Value.string (ByteArray.mk #[]), Value.bool false]) := ⟨Tryz.zeroValue47⟩
instance iS255 : SzC 255 3 := ⟨a7⟩
instance iZ5 : ZvC 5 (Value.int IntKind.u8 0) := ⟨Tryz.zeroValue5⟩
instance iU179 : UnC 179 (some Tryz.t179.desc) := ⟨H5⟩
instance iS111 : SzC 111 1 := ⟨Tryz.sizeOf111⟩
instance iZ3 : ZvC 3 (Value.int IntKind.i64 0) := ⟨Tryz.zeroValue3⟩
instance iZ277 : ZvC 277 (Value.agg #[Value.string (ByteArray.mk #[]), Value.int IntKind.i64 0, Value.bool false]) := ⟨Tryz.zeroValue277⟩
instance iU25 : UnC 25 (some Tryz.t25.desc) := ⟨B4⟩
instance iS113 : SzC 113 1 := ⟨Tryz.sizeOf113⟩
instance iS144 : SzC 144 1 := ⟨Tryz.sizeOf144⟩
instance iU180 : UnC 180 (some Tryz.t180.desc) := ⟨I8⟩
instance iZ156 : ZvC 156 (Value.agg #[Value.int IntKind.i64 0, Value.string (ByteArray.mk #[]), Value.string (ByteArray.mk #[]), Value.int IntKind.i64 0]) := ⟨Tryz.zeroValue156⟩
instance iZ182 : ZvC 182 (Value.agg #[Value.int IntKind.i64 0, Value.slice none 0 0, Value.slice none 0 0, Value.slice none 0 0]) := ⟨Tryz.zeroValue182⟩
instance iS156 : SzC 156 4 := ⟨S7⟩
instance iS33 : SzC 33 1 := ⟨N1⟩
instance iA114 : AgC 114 false := ⟨Tryz.isAgg114⟩
instance iS121 : SzC 121 1 := ⟨Tryz.sizeOf121⟩
instance iS25 : SzC 25 1 := ⟨Tryz.sizeOf25⟩
instance iZ260 : ZvC 260 (Value.agg #[Value.string (ByteArray.mk #[]), Value.slice none 0 0]) := ⟨Tryz.zeroValue260⟩
instance iS5 : SzC 5 1 := ⟨Tryz.sizeOf5⟩
instance iU138 : UnC 138 (some Tryz.t138.desc) := ⟨Tryz.underlying138⟩
instance iZ221 : ZvC 221 (Value.agg #[Value.int IntKind.i64 0, Value.int IntKind.i64 0, Value.int IntKind.i64 0, Value.int IntKind.i64 0, Value.slice none 0 0, Value.slice none 0 0, Value.bool false]) := ⟨Tryz.zeroValue221⟩
instance iS252 : SzC 252 5 := ⟨N8⟩
instance iZ152 : ZvC 152 (Value.agg #[Value.int IntKind.i64 0, Value.slice none 0 0, Value.slice none 0 0, Value.int IntKind.i64 0, Value.int IntKind.i64 0, Value.int IntKind.i64 0]) := ⟨Tryz.zeroValue152⟩
instance iS207 : SzC 207 3 := ⟨I5⟩
instance iS218 : SzC 218 2 := ⟨Tryz.sizeOf218⟩
instance iU135 : UnC 135 (some Tryz.t135.desc) := ⟨Tryz.underlying135⟩
instance iU167 : UnC 167 (some Tryz.t167.desc) := ⟨i5⟩
instance iA180 : AgC 180 false := ⟨Tryz.isAgg180⟩
instance iS178 : SzC 178 3 := ⟨C8⟩
instance iS152 : SzC 152 6 := ⟨Tryz.sizeOf152⟩
instance iS226 : SzC 226 8 := ⟨T5⟩
instance iZ207 : ZvC 207 (Value.agg #[Value.bool false, Value.slice none 0 0, Value.int IntKind.i64 0]) := ⟨Tryz.zeroValue207⟩
instance iU252 : UnC 252 (some Tryz.t251.desc) := ⟨Tryz.underlying252⟩
instance iU224 : UnC 224 (some Tryz.t224.desc) := ⟨Tryz.underlying224⟩
instance iA34 : AgC 34 false := ⟨Tryz.isAgg34⟩
instance iA260 : AgC 260 true := ⟨Tryz.isAgg260⟩
instance iU203 : UnC 203 (some Tryz.t203.desc) := ⟨U4⟩
instance iA252 : AgC 252 true := ⟨Tryz.isAgg252⟩
instance iA36 : AgC 36 true := ⟨Tryz.isAgg36⟩
instance iS221 : SzC 221 7 := ⟨Tryz.sizeOf221⟩
instance iZ173 : ZvC 173 (Value.agg #[Value.int IntKind.i64 0, Value.int IntKind.i64 0, Value.int IntKind.i64 0]) := ⟨Tryz.zeroValue173⟩
instance iA179 : AgC 179 false := ⟨Tryz.isAgg179⟩
instance iA173 : AgC 173 true := ⟨Z7⟩
instance iZ9 : ZvC 9 (Value.string (ByteArray.mk #[])) := ⟨Tryz.zeroValue9⟩
instance iU22 : UnC 22 (some Tryz.t22.desc) := ⟨d8⟩
instance iZ143 : ZvC 143 (Value.agg #[Value.slice none 0 0, Value.slice none 0 0, Value.slice none 0 0, Value.int IntKind.i64 0, Value.int IntKind.i64 0, Value.bool false, Value.int IntKind.i64 0, Value.bool false, Value.bool false, Value.bool false]) := ⟨Tryz.zeroValue143⟩
instance iA22 : AgC 22 false := ⟨Tryz.isAgg22⟩
instance iU182 : UnC 182 (some Tryz.t181.desc) := ⟨c0⟩
instance iS114 : SzC 114 1 := ⟨Tryz.sizeOf114⟩
instance iA53 : AgC 53 false := ⟨Tryz.isAgg53⟩
instance iS116 : SzC 116 9 := ⟨N2⟩
instance iS79 : SzC 79 1 := ⟨c9⟩
instance iS203 : SzC 203 1 := ⟨Y4⟩
instance iS179 : SzC 179 1 := ⟨Tryz.sizeOf179⟩
instance iS180 : SzC 180 1 := ⟨Tryz.sizeOf180⟩
instance iS182 : SzC 182 4 := ⟨O7⟩
instance iU255 : UnC 255 (some Tryz.t254.desc) := ⟨Tryz.underlying255⟩
instance iA152 : AgC 152 true := ⟨Tryz.isAgg152⟩
instance iA255 : AgC 255 true := ⟨Tryz.isAgg255⟩
instance iU24 : UnC 24 (some Tryz.t24.desc) := ⟨F8⟩
instance iA45 : AgC 45 true := ⟨AC0⟩
instance iS3 : SzC 3 1 := ⟨B6⟩
instance iZ4 : ZvC 4 (Value.bool false) := ⟨Tryz.zeroValue4⟩
instance iZ252 : ZvC 252 (Value.agg #[Value.int IntKind.i64 0, Value.int IntKind.i64 0, Value.int IntKind.i64 0, Value.slice none 0 0, Value.slice none 0 0]) := ⟨Tryz.zeroValue252⟩
instance iZ121 : ZvC 121 (Value.slice none 0 0) := ⟨Tryz.zeroValue121⟩
instance iA111 : AgC 111 false := ⟨Tryz.isAgg111⟩
instance iA144 : AgC 144 false := ⟨Tryz.isAgg144⟩
instance iS148 : SzC 148 3 := ⟨P8⟩
instance iU36 : UnC 36 (some Tryz.t35.desc) := ⟨V4⟩
instance iA182 : AgC 182 true := ⟨T8⟩
instance iZ199 : ZvC 199 (Value.agg #[Value.int IntKind.i64 0, Value.int IntKind.i64 0, Value.slice none 0 0, Value.slice none 0 0, Value.slice none 0 0, Value.slice none 0 0, Value.slice none 0 0, Value.slice none 0 0, Value.slice none 0 0]) := ⟨Tryz.zeroValue199⟩
instance iS4 : SzC 4 1 := ⟨N9⟩
instance iZ226 : ZvC 226 (Value.agg #[Value.int IntKind.i64 0, Value.int IntKind.i64 0, Value.int IntKind.i64 0, Value.int IntKind.i64 0, Value.int IntKind.i64 0, Value.slice none 0 0, Value.slice none 0 0, Value.bool false]) := ⟨Tryz.zeroValue226⟩
instance iU176 : UnC 176 (some Tryz.t176.desc) := ⟨F3⟩
instance iU152 : UnC 152 (some Tryz.t151.desc) := ⟨K6⟩
instance iA205 : AgC 205 false := ⟨Tryz.isAgg205⟩
instance iU199 : UnC 199 (some Tryz.t198.desc) := ⟨Tryz.underlying199⟩
instance iU144 : UnC 144 (some Tryz.t144.desc) := ⟨K7⟩
instance iA221 : AgC 221 true := ⟨Tryz.isAgg221⟩
instance iS53 : SzC 53 1 := ⟨Tryz.sizeOf53⟩
instance iA277 : AgC 277 true := ⟨Tryz.isAgg277⟩
instance iA121 : AgC 121 false := ⟨Tryz.isAgg121⟩
instance iU260 : UnC 260 (some Tryz.t259.desc) := ⟨X4⟩
instance iS173 : SzC 173 3 := ⟨X5⟩
instance iA258 : AgC 258 false := ⟨Tryz.isAgg258⟩
instance iA112 : AgC 112 false := ⟨Tryz.isAgg112⟩
instance iS34 : SzC 34 1 := ⟨Tryz.sizeOf34⟩
instance iA203 : AgC 203 false := ⟨Tryz.isAgg203⟩
instance iS9 : SzC 9 1 := ⟨K3⟩
instance iZ203 : ZvC 203 (Value.slice none 0 0) := ⟨Tryz.zeroValue203⟩
instance iU234 : UnC 234 (some Tryz.t233.desc) := ⟨Tryz.underlying234⟩
instance iU178 : UnC 178 (some Tryz.t177.desc) := ⟨Q2⟩
instance iZ79 : ZvC 79 (Value.slice none 0 0) := ⟨Tryz.zeroValue79⟩
instance iU79 : UnC 79 (some Tryz.t79.desc) := ⟨F9⟩
instance iZ36 : ZvC 36 (Value.agg #[Value.int IntKind.i64 0, Value.int IntKind.i64 0, Value.int IntKind.i64 0, Value.bool false, Value.bool false, Value.int IntKind.i64 0, Value.slice none 0 0, Value.slice none 0 0]) := ⟨Tryz.zeroValue36⟩
instance iU34 : UnC 34 (some Tryz.t34.desc) := ⟨C0⟩
instance iU47 : UnC 47 (some Tryz.t46.desc) := ⟨Tryz.underlying47⟩
instance iA4 : AgC 4 false := ⟨g9⟩
instance iS36 : SzC 36 8 := ⟨J4⟩
instance iU112 : UnC 112 (some Tryz.t112.desc) := ⟨Q3⟩
instance iZ45 : ZvC 45 (Value.agg #[Value.string (ByteArray.mk #[]), Value.string (ByteArray.mk #[]), Value.bool false]) := ⟨Tryz.zeroValue45⟩
instance iS277 : SzC 277 3 := ⟨i8⟩
instance iA148 : AgC 148 true := ⟨Tryz.isAgg148⟩
instance iZ178 : ZvC 178 (Value.agg #[Value.slice none 0 0, Value.int IntKind.i64 0, Value.int IntKind.i64 0]) := ⟨Tryz.zeroValue178⟩
instance iU258 : UnC 258 (some Tryz.t258.desc) := ⟨U5⟩
instance iA143 : AgC 143 true := ⟨Tryz.isAgg143⟩
instance iU277 : UnC 277 (some Tryz.t276.desc) := ⟨Tryz.underlying277⟩
instance iU168 : UnC 168 (some Tryz.t168.desc) := ⟨Tryz.underlying168⟩
instance iU218 : UnC 218 (some Tryz.t217.desc) := ⟨Tryz.underlying218⟩
instance iZ116 : ZvC 116 (Value.agg #[Value.int IntKind.i64 0, Value.int IntKind.i64 0, Value.slice none 0 0, Value.slice none 0 0, Value.slice none 0 0, Value.slice none 0 0, Value.slice none 0 0, Value.slice none 0 0, Value.slice none 0 0]) := ⟨Tryz.zeroValue116⟩
instance iU173 : UnC 173 (some Tryz.t172.desc) := ⟨Tryz.underlying173⟩
instance iA110 : AgC 110 false := ⟨Tryz.isAgg110⟩
instance iA47 : AgC 47 true := ⟨Tryz.isAgg47⟩
instance iA207 : AgC 207 true := ⟨Tryz.isAgg207⟩
instance iU207 : UnC 207 (some Tryz.t206.desc) := ⟨Y7⟩
instance iU148 : UnC 148 (some Tryz.t147.desc) := ⟨Tryz.underlying148⟩
instance iU143 : UnC 143 (some Tryz.t142.desc) := ⟨H6⟩
instance iZ148 : ZvC 148 (Value.agg #[Value.int IntKind.i64 0, Value.bool false, Value.int IntKind.i64 0]) := ⟨Tryz.zeroValue148⟩
instance iZ55 : ZvC 55 (Value.agg #[Value.slice none 0 0, Value.int IntKind.i64 0, Value.int IntKind.u64 0]) := ⟨Tryz.zeroValue55⟩
instance iA226 : AgC 226 true := ⟨Tryz.isAgg226⟩
instance iS258 : SzC 258 1 := ⟨Tryz.sizeOf258⟩
instance iS205 : SzC 205 1 := ⟨Tryz.sizeOf205⟩
instance iA156 : AgC 156 true := ⟨Z8⟩
instance iU140 : UnC 140 (some Tryz.t140.desc) := ⟨Tryz.underlying140⟩
instance iU110 : UnC 110 (some Tryz.t110.desc) := ⟨S4⟩
instance iA9 : AgC 9 false := ⟨n6⟩
instance iS112 : SzC 112 1 := ⟨Tryz.sizeOf112⟩
instance iA25 : AgC 25 false := ⟨Tryz.isAgg25⟩
instance iA178 : AgC 178 true := ⟨J9⟩
instance iS45 : SzC 45 3 := ⟨N5⟩
instance iA33 : AgC 33 false := ⟨Y5⟩
instance iA116 : AgC 116 true := ⟨V5⟩
instance iS260 : SzC 260 2 := ⟨P2⟩
instance iA113 : AgC 113 false := ⟨Tryz.isAgg113⟩
instance iZ218 : ZvC 218 (Value.agg #[Value.int IntKind.i64 0, Value.int IntKind.i64 0]) := ⟨Tryz.zeroValue218⟩
instance iU121 : UnC 121 (some Tryz.t121.desc) := ⟨P3⟩
instance iU111 : UnC 111 (some Tryz.t111.desc) := ⟨G7⟩
instance iU156 : UnC 156 (some Tryz.t155.desc) := ⟨Tryz.underlying156⟩
instance iU116 : UnC 116 (some Tryz.t115.desc) := ⟨T6⟩
instance iA176 : AgC 176 false := ⟨Tryz.isAgg176⟩
instance iZ234 : ZvC 234 (Value.agg #[Value.int IntKind.i64 0]) := ⟨Tryz.zeroValue234⟩
instance iU45 : UnC 45 (some Tryz.t44.desc) := ⟨Tryz.underlying45⟩
instance iA3 : AgC 3 false := ⟨I7⟩
instance iU33 : UnC 33 (some Tryz.t33.desc) := ⟨J3⟩
instance iP36 : PlC 36 #[(0, 1), (1, 1), (2, 1), (3, 1), (4, 1), (5, 1), (6, 1), (7, 1)] := ⟨_, V4, fun w => by kernel_rfl⟩
instance iP45 : PlC 45 #[(0, 1), (1, 1), (2, 1)] := ⟨_, Tryz.underlying45, fun w => by kernel_rfl⟩
instance iP47 : PlC 47 #[(0, 1), (1, 1), (2, 1)] := ⟨_, Tryz.underlying47, fun w => by kernel_rfl⟩
instance iP55 : PlC 55 #[(0, 1), (1, 1), (2, 1)] := ⟨_, Tryz.underlying55, fun w => by kernel_rfl⟩
instance iP116 : PlC 116 #[(0, 1), (1, 1), (2, 1), (3, 1), (4, 1), (5, 1), (6, 1), (7, 1), (8, 1)] := ⟨_, T6, fun w => by kernel_rfl⟩
instance iP148 : PlC 148 #[(0, 1), (1, 1), (2, 1)] := ⟨_, Tryz.underlying148, fun w => by kernel_rfl⟩
instance iP152 : PlC 152 #[(0, 1), (1, 1), (2, 1), (3, 1), (4, 1), (5, 1)] := ⟨_, K6, fun w => by kernel_rfl⟩
instance iP156 : PlC 156 #[(0, 1), (1, 1), (2, 1), (3, 1)] := ⟨_, Tryz.underlying156, fun w => by kernel_rfl⟩
instance iP173 : PlC 173 #[(0, 1), (1, 1), (2, 1)] := ⟨_, Tryz.underlying173, fun w => by kernel_rfl⟩
instance iP178 : PlC 178 #[(0, 1), (1, 1), (2, 1)] := ⟨_, Q2, fun w => by kernel_rfl⟩
instance iP199 : PlC 199 #[(0, 9)] := ⟨_, Tryz.underlying199, fun w => by kernel_rfl⟩
instance iP207 : PlC 207 #[(0, 1), (1, 1), (2, 1)] := ⟨_, Y7, fun w => by kernel_rfl⟩
instance iP218 : PlC 218 #[(0, 1), (1, 1)] := ⟨_, Tryz.underlying218, fun w => by kernel_rfl⟩
instance iP221 : PlC 221 #[(0, 1), (1, 1), (2, 1), (3, 1), (4, 1), (5, 1), (6, 1)] := ⟨_, Tryz.underlying221, fun w => by kernel_rfl⟩
instance iP226 : PlC 226 #[(0, 1), (1, 7)] := ⟨_, Tryz.underlying226, fun w => by kernel_rfl⟩
instance iP234 : PlC 234 #[(0, 1)] := ⟨_, Tryz.underlying234, fun w => by kernel_rfl⟩
instance iP252 : PlC 252 #[(0, 1), (1, 1), (2, 1), (3, 1), (4, 1)] := ⟨_, Tryz.underlying252, fun w => by kernel_rfl⟩
instance iP255 : PlC 255 #[(0, 1), (1, 1), (2, 1)] := ⟨_, Tryz.underlying255, fun w => by kernel_rfl⟩
instance iP277 : PlC 277 #[(0, 1), (1, 1), (2, 1)] := ⟨_, Tryz.underlying277, fun w => by kernel_rfl⟩
theorem omA {p : Prop} (h : p := by first | omega | ((try simp only [lenZs, O9, szR] at *); omega) | (have hc2 := hc; simp only [bolZs, beq_iff_eq, bne_iff_ne, A5, G9] at hc2; omega)) : p := h
theorem fsl {fs : Array Field} {k : Nat} {fd : Field} (h : fs.toList[k]? = some fd) : fs[k]? = some fd := by rw [← h]; simp
section
variable {P : Program} {G : Nat → Prop} {n : Nat}
theorem w_fldB2 {own : List Own} {o : Oper} {E : K5} {t : TypeId} {p : Operand} {b off : Nat} {fs : Array Field} {fd : Field} {k j : Nat} (m : Nat) (ho : o.op = .fieldAddr t p k) (ht : P.underlying t = some (.struct fs)) (hk : fs.toList[k]? = some fd) (hs : ∀ w, (sizeOf fd.type).run P w = .ok (j + 1) w)
    (hp : Ev E p (AV.ptr b off)) (hm : off + fd.offset = m) : OpW P G n own o E (AV.ptr b m) := Ad9 m ho ht (fsl hk) hs hp hm
theorem w_fldE2 {own : List Own} {o : Oper} {E : K5} {t : TypeId} {p : Operand} {fs : Array Field} {fd : Field} {k m : Nat} {xs ys : List AV} (ho : o.op = .fieldAddr t p k) (ht : P.underlying t = some (.struct fs)) (hk : fs.toList[k]? = some fd) (hs : ∀ w, (sizeOf fd.type).run P w = .ok (m + 1) w)
    (hp : Ev E p (AV.eptr xs)) (hy : xs.drop fd.offset = ys) : OpW P G n own o E (AV.eptr ys) := w_fldE ho ht (fsl hk) hs hp hy
theorem w_build2 {own : List Own} {o : Oper} {E : K5} {t : TypeId} {z : Value} {ps : Array (Nat × Operand)} {asl : List (Nat × List AV)} {places : Array (Nat × Nat)} {cs : List AV} (ho : o.op = .build t ps) (hz : ∀ w, (zeroValue t).run P w = .ok z w)
    (hpl : ∃ fs, P.underlying t = some (.struct fs) ∧ ∀ w, (fs.mapM (m := Sem) fun f => do pure (f.offset, ← sizeOf f.type)).run P w = .ok places w) (h1' : z.cells.toList.all Value.oneCell' = true) (hp : EvP E ps.toList asl) (hc : afill (places[·]?) (z.cells.toList.map zeroA) asl = some cs) :
    OpW P G n own o E (AV.agg cs) := by
  obtain ⟨fs, h1, h2⟩ := hpl
  exact W0 ho h1 hz h2 h1' hp hc
theorem gSq {B : Prop} {ops : Array Oper} {l : List Oper} {s : G1} {K : G1 → Prop} (h : B → M7 P G n ops l s K) : B → M7 P G n ops l s K := h
theorem gCh {B : Prop} {own : List Own} {ops : Array Oper} {l : List Oper} {e : List (Nat × AV)} {K : List (Nat × AV) → Prop} (h : B → AB1 P G n own ops l e K) : B → AB1 P G n own ops l e K := h
theorem gBc {B : Prop} {I : List Own → Prop} {ops : Array Oper} {l : List (Nat × Bool)} {e : List (Nat × AV)} {W : List Own} {K : List (Nat × AV) → List Own → Prop} (h : B → BCh P G n I ops l e W K) : B → BCh P G n I ops l e W K := h
theorem gBt {B : Prop} {I : List Own → Prop} {ops : Array Oper} {l : OT} {e : List (Nat × AV)} {W : List Own} {K : List (Nat × AV) → List Own → Prop} (h : B → BT P G n I ops l e W K) : B → BT P G n I ops l e W K := h
theorem gB3 {B : Prop} {I : List Own → Prop} {ops : Array Oper} {l : OT3} {e : List (Nat × AV)} {W : List Own} {K : List (Nat × AV) → List Own → Prop} (h : B → BT3 P G n I ops l e W K) : B → BT3 P G n I ops l e W K := h
end
theorem ix0 {α : Type} {l : List α} {x : α} (h : l[0]? = some x) : l[0]? = some x := h
theorem ix1 {α : Type} {l : List α} {x : α} (h : l[1]? = some x) : l[1]? = some x := h
theorem ix2 {α : Type} {l : List α} {x : α} (h : l[2]? = some x) : l[2]? = some x := h
theorem ix3 {α : Type} {l : List α} {x : α} (h : l[3]? = some x) : l[3]? = some x := h
theorem ix4 {α : Type} {l : List α} {x : α} (h : l[4]? = some x) : l[4]? = some x := h
theorem ix5 {α : Type} {l : List α} {x : α} (h : l[5]? = some x) : l[5]? = some x := h
theorem ix6 {α : Type} {l : List α} {x : α} (h : l[6]? = some x) : l[6]? = some x := h
theorem ix7 {α : Type} {l : List α} {x : α} (h : l[7]? = some x) : l[7]? = some x := h
theorem ix8 {α : Type} {l : List α} {x : α} (h : l[8]? = some x) : l[8]? = some x := h
theorem ix9 {α : Type} {l : List α} {x : α} (h : l[9]? = some x) : l[9]? = some x := h
theorem ix10 {α : Type} {l : List α} {x : α} (h : l[10]? = some x) : l[10]? = some x := h
theorem ix11 {α : Type} {l : List α} {x : α} (h : l[11]? = some x) : l[11]? = some x := h
theorem ix12 {α : Type} {l : List α} {x : α} (h : l[12]? = some x) : l[12]? = some x := h
theorem ix13 {α : Type} {l : List α} {x : α} (h : l[13]? = some x) : l[13]? = some x := h
theorem ix14 {α : Type} {l : List α} {x : α} (h : l[14]? = some x) : l[14]? = some x := h
theorem ix15 {α : Type} {l : List α} {x : α} (h : l[15]? = some x) : l[15]? = some x := h
theorem ixA {p : Prop} (h : p := by 
  first
  | (apply ix0; apply Eq.refl)
  | (apply ix1; apply Eq.refl)
  | (apply ix2; apply Eq.refl)
  | (apply ix3; apply Eq.refl)
  | (apply ix4; apply Eq.refl)
  | (apply ix5; apply Eq.refl)
  | (apply ix6; apply Eq.refl)
  | (apply ix7; apply Eq.refl)
  | (apply ix8; apply Eq.refl)
  | (apply ix9; apply Eq.refl)
  | (apply ix10; apply Eq.refl)
  | (apply ix11; apply Eq.refl)
  | (apply ix12; apply Eq.refl)
  | (apply ix13; apply Eq.refl)
  | (apply ix14; apply Eq.refl)
  | (apply ix15; apply Eq.refl)) : p := h
theorem evA {p : Prop} (h : p := by 
  first
  | (apply B1; apply Eq.refl; exact hc)
  | (apply B1; apply Eq.refl; exact (and_l hc))
  | (apply A0; apply Eq.refl)
  | apply D8
  | apply t0) : p := h
theorem eiA {p : Prop} (h : p := by 
  first
  | (apply evif_w; apply Eq.refl)
  | (apply evif_w2; apply Eq.refl; exact hc)
  | (apply evif; exact evA)) : p := h
theorem asA {p : Prop} (h : p := by 
  first
  | apply V2
  | apply Q1
  | apply u4
  | apply U8
  | apply Y1) : p := h
theorem bpA {p : Prop} (h : p := by (repeat (apply D7; exact evA; exact asA)); apply T7) : p := h
theorem gdA {p : Prop} (h : p := by 
  first
  | (apply O5; apply Eq.refl; apply Eq.refl; apply Eq.refl)
  | (apply S2; apply Eq.refl; apply Eq.refl; apply Eq.refl)
  | (apply U6; apply Eq.refl; apply Eq.refl; apply Eq.refl)
  | (apply Ag1; apply Eq.refl; apply Eq.refl; apply Eq.refl)) : p := h
theorem nm0 {x : Nat} (h : x = 0) : x = 0 := h
theorem nm1 {x : Nat} (h : x = 1) : x = 1 := h
theorem nm2 {x : Nat} (h : x = 2) : x = 2 := h
theorem nm3 {x : Nat} (h : x = 3) : x = 3 := h
theorem nm4 {x : Nat} (h : x = 4) : x = 4 := h
theorem nm5 {x : Nat} (h : x = 5) : x = 5 := h
theorem nm6 {x : Nat} (h : x = 6) : x = 6 := h
theorem nm7 {x : Nat} (h : x = 7) : x = 7 := h
theorem nm8 {x : Nat} (h : x = 8) : x = 8 := h
theorem nm9 {x : Nat} (h : x = 9) : x = 9 := h
theorem nm10 {x : Nat} (h : x = 10) : x = 10 := h
theorem nm11 {x : Nat} (h : x = 11) : x = 11 := h
theorem nm12 {x : Nat} (h : x = 12) : x = 12 := h
theorem nm13 {x : Nat} (h : x = 13) : x = 13 := h
theorem nm14 {x : Nat} (h : x = 14) : x = 14 := h
theorem nm15 {x : Nat} (h : x = 15) : x = 15 := h
theorem nm16 {x : Nat} (h : x = 16) : x = 16 := h
theorem nm17 {x : Nat} (h : x = 17) : x = 17 := h
theorem nm18 {x : Nat} (h : x = 18) : x = 18 := h
theorem nm19 {x : Nat} (h : x = 19) : x = 19 := h
theorem nm20 {x : Nat} (h : x = 20) : x = 20 := h
theorem nm21 {x : Nat} (h : x = 21) : x = 21 := h
theorem nm22 {x : Nat} (h : x = 22) : x = 22 := h
theorem nm23 {x : Nat} (h : x = 23) : x = 23 := h
theorem nm24 {x : Nat} (h : x = 24) : x = 24 := h
theorem nm25 {x : Nat} (h : x = 25) : x = 25 := h
theorem nm26 {x : Nat} (h : x = 26) : x = 26 := h
theorem nm27 {x : Nat} (h : x = 27) : x = 27 := h
theorem nm28 {x : Nat} (h : x = 28) : x = 28 := h
theorem nm29 {x : Nat} (h : x = 29) : x = 29 := h
theorem nm30 {x : Nat} (h : x = 30) : x = 30 := h
theorem nm31 {x : Nat} (h : x = 31) : x = 31 := h
theorem nm32 {x : Nat} (h : x = 32) : x = 32 := h
theorem nmA {p : Prop} (h : p := by 
  first
  | (apply nm0; apply Eq.refl)
  | (apply nm1; apply Eq.refl)
  | (apply nm2; apply Eq.refl)
  | (apply nm3; apply Eq.refl)
  | (apply nm4; apply Eq.refl)
  | (apply nm5; apply Eq.refl)
  | (apply nm6; apply Eq.refl)
  | (apply nm7; apply Eq.refl)
  | (apply nm8; apply Eq.refl)
  | (apply nm9; apply Eq.refl)
  | (apply nm10; apply Eq.refl)
  | (apply nm11; apply Eq.refl)
  | (apply nm12; apply Eq.refl)
  | (apply nm13; apply Eq.refl)
  | (apply nm14; apply Eq.refl)
  | (apply nm15; apply Eq.refl)
  | (apply nm16; apply Eq.refl)
  | (apply nm17; apply Eq.refl)
  | (apply nm18; apply Eq.refl)
  | (apply nm19; apply Eq.refl)
  | (apply nm20; apply Eq.refl)
  | (apply nm21; apply Eq.refl)
  | (apply nm22; apply Eq.refl)
  | (apply nm23; apply Eq.refl)
  | (apply nm24; apply Eq.refl)
  | (apply nm25; apply Eq.refl)
  | (apply nm26; apply Eq.refl)
  | (apply nm27; apply Eq.refl)
  | (apply nm28; apply Eq.refl)
  | (apply nm29; apply Eq.refl)
  | (apply nm30; apply Eq.refl)
  | (apply nm31; apply Eq.refl)
  | (apply nm32; apply Eq.refl)) : p := h
theorem vA {p : Prop} (h : p := by 
  first
  | (apply w_move; apply Eq.refl; exact evA)
  | (apply D6; apply Eq.refl; exact evA)
  | (apply w_fldB2; apply Eq.refl; exact unL; apply Eq.refl; exact szL; exact evA; exact nmA)
  | (apply AV9; apply Eq.refl; exact evA; exact ixA; exact agL; apply Eq.refl)
  | (apply Bt3; apply Eq.refl; exact evA; exact ixA; exact agL; exact szL; apply Eq.refl)
  | (apply w_llen; apply Eq.refl; exact unL; exact evA)
  | (apply CE7; apply Eq.refl; exact evA; apply Eq.refl)
  | (apply w_not; apply Eq.refl; exact evA)
  | (apply w_loadE1; apply Eq.refl; exact evA; exact agL; apply Eq.refl)
  | (apply w_loadE; apply Eq.refl; exact evA; exact agL; exact szL)
  | (apply w_fldE2; apply Eq.refl; exact unL; apply Eq.refl; exact szL; exact evA; apply Eq.refl)
  | (apply w_nilB; apply Eq.refl; exact evA)
  | (apply w_and; apply Eq.refl; exact evA; exact eiA)
  | (apply w_or; apply Eq.refl; exact evA; exact eiA)
  | (apply w_lss; apply Eq.refl; exact evA; exact evA)
  | (apply w_eql; apply Eq.refl; exact evA; exact evA)
  | (apply Ad3; apply Eq.refl; exact evA; exact evA; exact omA)
  | (apply Bd9; apply Eq.refl; exact evA; exact evA; exact omA)
  | (apply w_gtr; apply Eq.refl; exact evA; exact evA)
  | (apply w_leq; apply Eq.refl; exact evA; exact evA)
  | (apply w_geq; apply Eq.refl; exact evA; exact evA)
  | (apply w_neq; apply Eq.refl; exact evA; exact evA)
  | (apply AG9; apply Eq.refl; exact evA; exact evA)
  | (apply Be0; apply Eq.refl; exact evA; exact evA)
  | (apply w_alen; apply Eq.refl; exact unL; exact evA; exact ixA)
  | (apply w_slen; apply Eq.refl; exact unL; exact evA)
  | (apply w_build2; apply Eq.refl; exact zvL; exact plL; apply Eq.refl; exact bpA; apply Eq.refl)
  | (apply AI6; apply Eq.refl; exact unL; exact szL; exact zvL; apply Eq.refl; apply Eq.refl; apply Eq.refl; apply Eq.refl; exact bpA; apply Eq.refl; apply Eq.refl)) : p := h
theorem s1 {A B : Prop} (h : B → A := by
 first
 | ((with_reducible apply gSq); first | (apply Ag2; apply Eq.refl; apply Eq.refl; apply Eq.refl; exact vA) | apply sq_nil | (apply c7; apply Eq.refl; apply Eq.refl; exact gdA; exact (fun hc => vA)) | (apply Bx0; apply Eq.refl; apply Eq.refl; apply Eq.refl; exact evA; exact evA; exact asA; exact ixA; exact szL; apply Eq.refl) | (apply O1; apply Eq.refl; apply Eq.refl; apply Eq.refl; exact evA; exact evA; exact asA; exact ixA; exact szL; apply Eq.refl) | (apply sq_alloc; apply Eq.refl; apply Eq.refl; apply Eq.refl; apply Eq.refl; exact zvL; apply Eq.refl) | (apply sq_box; apply Eq.refl; apply Eq.refl; apply Eq.refl; apply Eq.refl; exact evA))
 | ((with_reducible apply gCh); first | (apply C3; apply Eq.refl; apply Eq.refl; exact vA) | apply ch_nil | (apply L2; apply Eq.refl; exact gdA; exact (fun hc => vA)))
 | ((with_reducible apply gBc); first | (apply M4; apply Eq.refl; apply Eq.refl; apply Eq.refl; exact (fun ext => vA)) | apply bc_nil)
 | ((with_reducible apply gBt); first | (apply K4; apply Eq.refl; apply Eq.refl; apply Eq.refl; exact (fun ext => vA)) | apply bt_nil | apply bt_e1)
 | ((with_reducible apply gB3); first | (apply r4; apply Eq.refl; apply Eq.refl; apply Eq.refl; exact (fun ext => vA)) | apply bt3_nil | apply bt3_e1)
 | apply awp_seq
 | apply Bw5
 | apply CE6
 | apply awp_skip
 | apply awp_ret
 | apply awp_exit
 | (apply BN7; kernel_rfl; kernel_rfl; apply Eq.refl)) : B → A := h
theorem s2 {A B C : Prop} (g : B → A) (f : C → B) : C → A := fun c => g (f c)
theorem t1 {A B : Prop} (h : B → A := by exact s1) : B → A := h
theorem t2 {A B : Prop} (h : B → A := by exact s2 t1 t1) : B → A := h
theorem t4 {A B : Prop} (h : B → A := by exact s2 t2 t2) : B → A := h
theorem t8 {A B : Prop} (h : B → A := by exact s2 t4 t4) : B → A := h
theorem t16 {A B : Prop} (h : B → A := by exact s2 t8 t8) : B → A := h
theorem t32 {A B : Prop} (h : B → A := by exact s2 t16 t16) : B → A := h
theorem R1 {A B : Prop} (k : B) (h : B → A := by exact t1) : A := h k
theorem R2 {A B : Prop} (k : B) (h : B → A := by exact t2) : A := h k
theorem R3 {A B : Prop} (k : B) (h : B → A := by exact s2 t2 t1) : A := h k
theorem R4 {A B : Prop} (k : B) (h : B → A := by exact t4) : A := h k
theorem R5 {A B : Prop} (k : B) (h : B → A := by exact s2 t4 t1) : A := h k
theorem R6 {A B : Prop} (k : B) (h : B → A := by exact s2 t4 t2) : A := h k
theorem R7 {A B : Prop} (k : B) (h : B → A := by exact s2 t4 (s2 t2 t1)) : A := h k
theorem R8 {A B : Prop} (k : B) (h : B → A := by exact t8) : A := h k
theorem R9 {A B : Prop} (k : B) (h : B → A := by exact s2 t8 t1) : A := h k
theorem R10 {A B : Prop} (k : B) (h : B → A := by exact s2 t8 t2) : A := h k
theorem R11 {A B : Prop} (k : B) (h : B → A := by exact s2 t8 (s2 t2 t1)) : A := h k
theorem R12 {A B : Prop} (k : B) (h : B → A := by exact s2 t8 t4) : A := h k
theorem R13 {A B : Prop} (k : B) (h : B → A := by exact s2 t8 (s2 t4 t1)) : A := h k
theorem R14 {A B : Prop} (k : B) (h : B → A := by exact s2 t8 (s2 t4 t2)) : A := h k
theorem R15 {A B : Prop} (k : B) (h : B → A := by exact s2 t8 (s2 t4 (s2 t2 t1))) : A := h k
theorem R16 {A B : Prop} (k : B) (h : B → A := by exact t16) : A := h k
theorem R17 {A B : Prop} (k : B) (h : B → A := by exact s2 t16 t1) : A := h k
theorem R18 {A B : Prop} (k : B) (h : B → A := by exact s2 t16 t2) : A := h k
theorem R19 {A B : Prop} (k : B) (h : B → A := by exact s2 t16 (s2 t2 t1)) : A := h k
theorem R20 {A B : Prop} (k : B) (h : B → A := by exact s2 t16 t4) : A := h k
theorem R21 {A B : Prop} (k : B) (h : B → A := by exact s2 t16 (s2 t4 t1)) : A := h k
theorem R22 {A B : Prop} (k : B) (h : B → A := by exact s2 t16 (s2 t4 t2)) : A := h k
theorem R23 {A B : Prop} (k : B) (h : B → A := by exact s2 t16 (s2 t4 (s2 t2 t1))) : A := h k
theorem R24 {A B : Prop} (k : B) (h : B → A := by exact s2 t16 t8) : A := h k
theorem R27 {A B : Prop} (k : B) (h : B → A := by exact s2 t16 (s2 t8 (s2 t2 t1))) : A := h k
theorem R31 {A B : Prop} (k : B) (h : B → A := by exact s2 t16 (s2 t8 (s2 t4 (s2 t2 t1)))) : A := h k
theorem R36 {A B : Prop} (k : B) (h : B → A := by exact s2 t32 t4) : A := h k
end Go.AV
namespace Go.M
open Go.AV
abbrev Str := List UInt8
@[reducible] def strs (l : List Str) : AV := AV.list 1 (l.map fun s => [AV.str s])
@[reducible] def ints (l : List Int) : AV := AV.list 1 (l.map fun s => [AV.int s])
def sizeL {α : Type} (f : α → Nat) (l : List α) : Nat := l.length + (l.map f).sum
def szR (n : Nat) (left : Int) : Int := if left < n then -1 else left - n
theorem sum_le {α : Type} (f : α → Nat) : ∀ (l : List α) (i : Nat) (x : α), l[i]? = some x → ((l.take i).map f).sum + f x ≤ (l.map f).sum
  | [], i, x, h => by simp at h
  | y :: l, 0, x, h => by simp at h; subst h; simp
  | y :: l, i + 1, x, h => by
    have := sum_le f l i x s9
    simp only [AL9, List.map_cons, List.sum_cons]; omega
theorem AZ5 {α : Type} {f : α → Nat} {l : List α} {x : α} (h : x ∈ l) : f x ≤ sizeL f l := by
  obtain ⟨i, hi⟩ := List.getElem?_of_mem h
  have := sum_le f l i x hi
  unfold sizeL; omega
theorem L3 {α : Type} {f : α → Nat} {l : List α} : l.length ≤ sizeL f l := by unfold sizeL; omega
theorem W4 {α : Type} {f : α → Nat} {l : List α} {i : Nat} {x : α} (h : l[i]? = some x) : f x ≤ sizeL f l := AZ5 (C4 h)
theorem Bx7 {α : Type} {a b : List α} {i : Nat} (hl : a.length = b.length) (h : a.take i = b.take i) (hi : a.length ≤ i) : a = b := by
  rwa [List.take_of_length_le hi, List.take_of_length_le qz8] at h
theorem Bf5 {α : Type} {a b : List α} {i : Nat} {x : α} (h : a.take i = b.take i) (ha : a[i]? = some x) (hb : b[i]? = some x) : a.take (i + 1) = b.take (i + 1) := by
  rw [List.take_add_one, List.take_add_one, h, ha, hb]
theorem AB6 {α : Type} [Inhabited α] (l : List α) (i : Nat) : ∃ y, i < l.length → l[i]? = some y := ⟨l[i]?.getD default, fun h => by rw [List.getElem?_eq_getElem h]; rfl⟩
theorem del_keep {α : Type} {p : α → Bool} {l m : List α} {i j : Nat} {x : α} (hm : m.length = l.length) (hij : i ≤ j) (hx : l[j]? = some x) (h1 : m.take i = (l.take j).filter p) (h2 : m.drop j = l.drop j) (hp : p x = true) : (m.set i x).take (i + 1) = (l.take (j + 1)).filter p ∧ (m.set i x).drop (j + 1) = l.drop (j + 1) ∧ (m.set i x).length = l.length := by
  have hj : j < l.length := (List.getElem?_eq_some_iff.1 hx).1
  refine ⟨?_, ?_, by simp [hm]⟩
  · rw [List.take_add_one, List.take_add_one, hx, List.filter_append, ← h1, List.take_set_of_le (Nat.le_refl _), List.getElem?_set_self qz8]
    simp [hp]
  · rw [List.drop_set_of_lt qz8]
    have := congrArg (List.drop 1) h2
    simpa [List.drop_drop] using this
theorem del_skip {α : Type} {p : α → Bool} {l m : List α} {i j : Nat} {x : α} (hx : l[j]? = some x) (h1 : m.take i = (l.take j).filter p) (h2 : m.drop j = l.drop j) (hp : p x = false) : m.take i = (l.take (j + 1)).filter p ∧ m.drop (j + 1) = l.drop (j + 1) := by
  refine ⟨?_, ?_⟩
  · rw [List.take_add_one, hx, List.filter_append, ← h1]; simp [hp]
  · have := congrArg (List.drop 1) h2
    simpa [List.drop_drop] using this
def bs {α : Type} (f : α → Int) (l : List α) (i j : Nat) : Nat :=
  if i < j then
    match l[(i + j) / 2]? with
    | some x => if f x < 0 then bs f l ((i + j) / 2 + 1) j else bs f l i ((i + j) / 2)
    | none => i
  else i
termination_by j - i
def BR3 {α : Type} (f : α → Int) (l : List α) (n : Nat) : Bool :=
  match l[n]? with
  | some x => f x == 0
  | none => false
theorem bs_lo {α : Type} {f : α → Int} {l : List α} {i j : Nat} {x : α} (h : i < j) (hx : l[(i + j) / 2]? = some x) (hf : f x < 0) : bs f l i j = bs f l ((i + j) / 2 + 1) j := by
  rw [bs, if_pos h, hx]; simp only [hf, if_true]
theorem bs_hi {α : Type} {f : α → Int} {l : List α} {i j : Nat} {x : α} (h : i < j) (hx : l[(i + j) / 2]? = some x) (hf : ¬ f x < 0) : bs f l i j = bs f l i ((i + j) / 2) := by
  rw [bs, if_pos h, hx]; simp only [hf, if_false]
theorem Bf6 {α : Type} {f : α → Int} {l : List α} {i j : Nat} (h : ¬ i < j) : bs f l i j = i := by rw [bs, if_neg h]
theorem half_eq {i j : Nat} (h : i + j ≤ 9223372036854775807) : IntKind.i64.wrap (IntKind.u64.wrap ((i : Int) + (j : Int)) / 2 ^ ((1 : Int).toNat)) = ((i + j) / 2 : Nat) := by
  have h1 : IntKind.u64.wrap ((i : Int) + (j : Int)) = (i : Int) + (j : Int) := by simp only [IntKind.wrap, IntKind.bits, IntKind.signed]; simp; omega
  rw [h1]
  have h2 : ((i : Int) + (j : Int)) / 2 ^ ((1 : Int).toNat) = (((i + j) / 2 : Nat) : Int) := by
    show ((i : Int) + (j : Int)) / 2 = _
    omega
  rw [h2]
  exact AV8 qz8
def idxFrom {α : Type} (p : α → Bool) : List α → Int → Int
  | [], _ => -1
  | x :: xs, k => if p x then k else idxFrom p xs (k + 1)
theorem Ac2 {α : Type} (p : α → Bool) : ∀ (l : List α) (k : Int), 0 ≤ k → decide (0 ≤ idxFrom p l k) = l.any p
  | [], _, _ => rfl
  | x :: xs, k, h => by
    unfold idxFrom
    cases hp : p x with
    | true => simp [hp]; exact h
    | false => simp [hp, Ac2 p xs (k + 1) qz8]
theorem AW5 {α : Type} (f : α → Bool) : ∀ (l : List α) (k : Nat), (idxFrom f l k = -1 ∧ l.filter (fun x => !f x) = l) ∨ ∃ n x, idxFrom f l k = ((k + n : Nat) : Int) ∧ l[n]? = some x ∧ l.take n = (l.take (n + 1)).filter (fun x => !f x)
  | [], k => .inl ⟨rfl, rfl⟩
  | x :: l, k => by
    unfold idxFrom
    cases hf : f x with
    | true => exact .inr ⟨0, x, by simp, rfl, by simp [hf]⟩
    | false =>
      have hk : (k : Int) + 1 = ((k + 1 : Nat) : Int) := by omega
      rw [hk]
      rcases AW5 f l (k + 1) with ⟨h1, h2⟩ | ⟨n, y, h1, h2, h3⟩
      · exact .inl ⟨by simpa using h1, by simp [hf, h2]⟩
      · refine .inr ⟨n + 1, y, ?_, by simpa using h2, ?_⟩
        · simp only [Bool.false_eq_true, if_false, h1]; omega
        · rw [AL9, AL9, List.filter_cons, hf]
          simp only [Bool.not_false, if_true, ← h3]
theorem ins_grow {α β : Type} {f : α → β} {l : List α} {x : α} {i : Nat} {Z : List β} (hi : i ≤ l.length) (hZ : Z.length = l.length + 1 - i) : (l.take i ++ x :: l.drop i).map f =
    ((((l.map f).take i ++ Z).take i ++ [f x] ++ ((l.map f).take i ++ Z).drop (i + [f x].length)).take (i + 1) ++ (l.map f).drop i ++ (((l.map f).take i ++ Z).take i ++ [f x] ++ ((l.map f).take i ++ Z).drop (i + [f x].length)).drop (i + 1 + ((l.map f).drop i).length)) := by
  have h1 : ((l.map f).take i).length = i := by simp; omega
  have hA : ((l.map f).take i ++ Z).take i = (l.map f).take i := List.take_left' h1
  have h2 : ((l.map f).take i ++ [f x]).length = i + 1 := by simp; omega
  rw [hA, List.take_left' h2]
  have hB : ((l.map f).take i ++ [f x] ++ ((l.map f).take i ++ Z).drop (i + [f x].length)).length ≤ i + 1 + ((l.map f).drop i).length := by
    simp only [G3, G9, A5, H4, M6, List.length_drop, hZ]; omega
  rw [List.drop_eq_nil_of_le hB]
  simp [List.map_take, List.map_drop]
theorem CF6 {α β : Type} {f : α → β} {l : List α} {x : α} {i : Nat} (hi : i < l.length) : (l.take i ++ x :: l.drop i).map f =
    ((l.map f).take (i + 1) ++ (l.map f).drop i).take i ++ [f x] ++ ((l.map f).take (i + 1) ++ (l.map f).drop i).drop (i + [f x].length) := by
  have h1 : ((l.map f).take (i + 1)).length = i + 1 := by simp; omega
  rw [List.take_append_of_le_length qz8, List.take_take, Nat.min_eq_left qz8, show i + [f x].length = i + 1 from rfl, List.drop_left' h1]
  simp [List.map_take, List.map_drop]
theorem CF7 {α : Type} {p : α → Bool} {cs : α → List AV} {l : List α} {i : Nat} {x : α} (hx : l[i]? = some x) (hp : p x = true) : ((l.take i).filter p).map cs ++ [cs x] = ((l.take (i + 1)).filter p).map cs := by
  rw [List.take_add_one, hx, List.filter_append, List.map_append]; simp [hp]
theorem CF8 {α : Type} {p : α → Bool} {cs : α → List AV} {l : List α} {i : Nat} {x : α} (hx : l[i]? = some x) (hp : p x = false) : ((l.take i).filter p).map cs = ((l.take (i + 1)).filter p).map cs := by
  rw [List.take_add_one, hx, List.filter_append, List.map_append]; simp [hp]
theorem Bn9 {α : Type} {m l : List α} {j : Nat} {x : α} (h : m.drop j = l.drop j) (hx : l[j]? = some x) : m[j]? = some x := by
  have h1 : (m.drop j)[0]? = (l.drop j)[0]? := by rw [h]
  simpa [hx] using h1
theorem del_end {α : Type} {p : α → Bool} {cs : α → List AV} {l m : List α} {i j k : Nat} {z : List AV} (h1 : m.take i = (l.take j).filter p) (h2 : l.length ≤ j) (h3 : i ≤ m.length) : ((m.map cs).take i ++ List.replicate k z).take i = (l.filter p).map cs := by
  rw [List.take_left' p5, ← List.map_take, h1, List.take_of_length_le h2]
structure V6 where
  Off : Int
deriving DecidableEq, Inhabited
def V6.cs (c : V6) : List AV := [AV.int c.Off]
theorem V6.flat (c : V6) : ∀ x ∈ c.cs, Flat x := (D2 (L6 _ _) M2)
def V6.size (c : V6) : Nat := 0
structure AS4 where
  Who : Int
  From : Int
  Until : Int
deriving DecidableEq, Inhabited
def AS4.cs (c : AS4) : List AV := [AV.int c.Who, AV.int c.From, AV.int c.Until]
theorem AS4.flat (c : AS4) : ∀ x ∈ c.cs, Flat x := (D2 (L6 _ _) (D2 (L6 _ _) (D2 (L6 _ _) M2)))
def AS4.size (c : AS4) : Nat := 0
structure TWatch where
  True : Int
  Clocks : List V6
  Given : List AS4
deriving DecidableEq, Inhabited
def TWatch.cs (c : TWatch) : List AV := [AV.int c.True, AV.list 1 (c.Clocks.map V6.cs), AV.list 3 (c.Given.map AS4.cs)]
def TWatch.size (c : TWatch) : Nat := c.Clocks.length + c.Given.length
structure AL2 where
  Kind : Int
  Who : Int
  By : Int
deriving DecidableEq, Inhabited
def AL2.cs (c : AL2) : List AV := [AV.int c.Kind, AV.int c.Who, AV.int c.By]
theorem AL2.flat (c : AL2) : ∀ x ∈ c.cs, Flat x := (D2 (L6 _ _) (D2 (L6 _ _) (D2 (L6 _ _) M2)))
def AL2.size (c : AL2) : Nat := 0
structure A9 where
  Key : Str
  Val : Str
  Gone : Bool
deriving DecidableEq, Inhabited
def A9.cs (c : A9) : List AV := [AV.str c.Key, AV.str c.Val, AV.bool c.Gone]
theorem A9.flat (c : A9) : ∀ x ∈ c.cs, Flat x := (D2 (W7 _) (D2 (W7 _) (D2 (X3 _) M2)))
def A9.size (c : A9) : Nat := c.Key.length + c.Val.length
structure L1 where
  Kind : Int
  Txn : Int
  Time : Int
  Lead : Int
  Reads : List Str
  Writes : List A9
  Yes : Bool
deriving DecidableEq, Inhabited
def L1.cs (c : L1) : List AV := [AV.int c.Kind, AV.int c.Txn, AV.int c.Time, AV.int c.Lead, strs c.Reads, AV.list 3 (c.Writes.map A9.cs), AV.bool c.Yes]
def L1.size (c : L1) : Nat := sizeL (fun x => x.length) c.Reads + sizeL A9.size c.Writes
structure J1 where
  Term : Int
  Rec : L1
deriving DecidableEq, Inhabited
def J1.cs (c : J1) : List AV := [AV.int c.Term, AV.int c.Rec.Kind, AV.int c.Rec.Txn, AV.int c.Rec.Time, AV.int c.Rec.Lead, strs c.Rec.Reads, AV.list 3 (c.Rec.Writes.map A9.cs), AV.bool c.Rec.Yes]
def J1.size (c : J1) : Nat := c.Rec.size
structure AU9 where
  Kept : Str
  Loose : Str
deriving DecidableEq, Inhabited
def AU9.cs (c : AU9) : List AV := [AV.str c.Kept, AV.str c.Loose]
theorem AU9.flat (c : AU9) : ∀ x ∈ c.cs, Flat x := (D2 (W7 _) (D2 (W7 _) M2))
def AU9.size (c : AU9) : Nat := c.Kept.length + c.Loose.length
structure E6 where
  Up : Bool
  Log : List J1
  Sure : Int
deriving DecidableEq, Inhabited
def E6.cs (c : E6) : List AV := [AV.bool c.Up, AV.list 8 (c.Log.map J1.cs), AV.int c.Sure]
def E6.size (c : E6) : Nat := sizeL J1.size c.Log
structure TGroup where
  Reps : List E6
  Term : Int
  Lead : Int
deriving DecidableEq, Inhabited
def TGroup.cs (c : TGroup) : List AV := [AV.list 3 (c.Reps.map E6.cs), AV.int c.Term, AV.int c.Lead]
def TGroup.size (c : TGroup) : Nat := sizeL E6.size c.Reps
structure THouse where
  Group : TGroup
  Disks : List AU9
deriving DecidableEq, Inhabited
def THouse.cs (c : THouse) : List AV := [AV.list 3 (c.Group.Reps.map E6.cs), AV.int c.Group.Term, AV.int c.Group.Lead, AV.list 2 (c.Disks.map AU9.cs)]
def THouse.size (c : THouse) : Nat := c.Group.size + sizeL AU9.size c.Disks
structure Aa7 where
  Kind : Int
  Rep : Int
  Rec : L1
deriving DecidableEq, Inhabited
def Aa7.cs (c : Aa7) : List AV := [AV.int c.Kind, AV.int c.Rep, AV.int c.Rec.Kind, AV.int c.Rec.Txn, AV.int c.Rec.Time, AV.int c.Rec.Lead, strs c.Rec.Reads, AV.list 3 (c.Rec.Writes.map A9.cs), AV.bool c.Rec.Yes]
def Aa7.size (c : Aa7) : Nat := c.Rec.size
structure Aa8 where
  Kind : Int
  Rep : Int
  Rec : L1
  Keep : Int
  Torn : Bool
deriving DecidableEq, Inhabited
def Aa8.cs (c : Aa8) : List AV := [AV.int c.Kind, AV.int c.Rep, AV.int c.Rec.Kind, AV.int c.Rec.Txn, AV.int c.Rec.Time, AV.int c.Rec.Lead, strs c.Rec.Reads, AV.list 3 (c.Rec.Writes.map A9.cs), AV.bool c.Rec.Yes, AV.int c.Keep, AV.bool c.Torn]
def Aa8.size (c : Aa8) : Nat := c.Rec.size
structure H8 where
  Key : Str
  Txn : Int
  Write : Bool
deriving DecidableEq, Inhabited
def H8.cs (c : H8) : List AV := [AV.str c.Key, AV.int c.Txn, AV.bool c.Write]
theorem H8.flat (c : H8) : ∀ x ∈ c.cs, Flat x := (D2 (W7 _) (D2 (L6 _ _) (D2 (X3 _) M2)))
def H8.size (c : H8) : Nat := c.Key.length
structure T9 where
  Time : Int
  Val : Str
  Gone : Bool
deriving DecidableEq, Inhabited
def T9.cs (c : T9) : List AV := [AV.int c.Time, AV.str c.Val, AV.bool c.Gone]
theorem T9.flat (c : T9) : ∀ x ∈ c.cs, Flat x := (D2 (L6 _ _) (D2 (W7 _) (D2 (X3 _) M2)))
def T9.size (c : T9) : Nat := c.Val.length
structure C5 where
  Key : Str
  Vers : List T9
deriving DecidableEq, Inhabited
def C5.cs (c : C5) : List AV := [AV.str c.Key, AV.list 3 (c.Vers.map T9.cs)]
def C5.size (c : C5) : Nat := c.Key.length + sizeL T9.size c.Vers
structure E3 where
  Txn : Int
  Time : Int
  Lead : Int
  Reads : List Str
  Writes : List A9
deriving DecidableEq, Inhabited
def E3.cs (c : E3) : List AV := [AV.int c.Txn, AV.int c.Time, AV.int c.Lead, strs c.Reads, AV.list 3 (c.Writes.map A9.cs)]
def E3.size (c : E3) : Nat := sizeL (fun x => x.length) c.Reads + sizeL A9.size c.Writes
structure M1 where
  Txn : Int
  Yes : Bool
  Time : Int
deriving DecidableEq, Inhabited
def M1.cs (c : M1) : List AV := [AV.int c.Txn, AV.bool c.Yes, AV.int c.Time]
theorem M1.flat (c : M1) : ∀ x ∈ c.cs, Flat x := (D2 (L6 _ _) (D2 (X3 _) (D2 (L6 _ _) M2)))
def M1.size (c : M1) : Nat := 0
structure G2 where
  Floor : Int
  Cells : List C5
  Held : List E3
  Told : List M1
deriving DecidableEq, Inhabited
def G2.cs (c : G2) : List AV := [AV.int c.Floor, AV.list 2 (c.Cells.map C5.cs), AV.list 5 (c.Held.map E3.cs), AV.list 3 (c.Told.map M1.cs)]
def G2.size (c : G2) : Nat := sizeL C5.size c.Cells + sizeL E3.size c.Held + c.Told.length
structure AN5 where
  Low : Int
  High : Int
deriving DecidableEq, Inhabited
def AN5.cs (c : AN5) : List AV := [AV.int c.Low, AV.int c.High]
theorem AN5.flat (c : AN5) : ∀ x ∈ c.cs, Flat x := (D2 (L6 _ _) (D2 (L6 _ _) M2))
def AN5.size (c : AN5) : Nat := 0
structure AH7 where
  Txn : Int
  Reads : List Str
  Writes : List A9
deriving DecidableEq, Inhabited
def AH7.cs (c : AH7) : List AV := [AV.int c.Txn, strs c.Reads, AV.list 3 (c.Writes.map A9.cs)]
def AH7.size (c : AH7) : Nat := sizeL (fun x => x.length) c.Reads + sizeL A9.size c.Writes
structure TDeal where
  Cuts : List Str
  States : List G2
  Orders : List AH7
deriving DecidableEq, Inhabited
def TDeal.cs (c : TDeal) : List AV := [strs c.Cuts, AV.list 4 (c.States.map G2.cs), AV.list 3 (c.Orders.map AH7.cs)]
def TDeal.size (c : TDeal) : Nat := sizeL (fun x => x.length) c.Cuts + sizeL G2.size c.States + sizeL AH7.size c.Orders
structure AP2 where
  Kind : Int
  Txn : Int
  Part : Int
  Time : Int
deriving DecidableEq, Inhabited
def AP2.cs (c : AP2) : List AV := [AV.int c.Kind, AV.int c.Txn, AV.int c.Part, AV.int c.Time]
theorem AP2.flat (c : AP2) : ∀ x ∈ c.cs, Flat x := (D2 (L6 _ _) (D2 (L6 _ _) (D2 (L6 _ _) (D2 (L6 _ _) M2))))
def AP2.size (c : AP2) : Nat := 0
structure TOp where
  Kind : Int
  Key : Str
  Val : Str
  By : Int
deriving DecidableEq, Inhabited
def TOp.cs (c : TOp) : List AV := [AV.int c.Kind, AV.str c.Key, AV.str c.Val, AV.int c.By]
theorem TOp.flat (c : TOp) : ∀ x ∈ c.cs, Flat x := (D2 (L6 _ _) (D2 (W7 _) (D2 (W7 _) (D2 (L6 _ _) M2))))
def TOp.size (c : TOp) : Nat := c.Key.length + c.Val.length
structure G5 where
  Key : Str
  Val : Str
  There : Bool
deriving DecidableEq, Inhabited
def G5.cs (c : G5) : List AV := [AV.str c.Key, AV.str c.Val, AV.bool c.There]
theorem G5.flat (c : G5) : ∀ x ∈ c.cs, Flat x := (D2 (W7 _) (D2 (W7 _) (D2 (X3 _) M2)))
def G5.size (c : G5) : Nat := c.Key.length + c.Val.length
structure A3 where
  Ops : List TOp
  Got : List G5
  Terms : List Int
  Begin : Int
  End : Int
  Yes : Bool
  Time : Int
  Dead : Bool
  Put : Bool
  Stopped : Bool
deriving DecidableEq, Inhabited
def A3.cs (c : A3) : List AV := [AV.list 4 (c.Ops.map TOp.cs), AV.list 3 (c.Got.map G5.cs), ints c.Terms, AV.int c.Begin, AV.int c.End, AV.bool c.Yes, AV.int c.Time, AV.bool c.Dead, AV.bool c.Put, AV.bool c.Stopped]
def A3.size (c : A3) : Nat := sizeL TOp.size c.Ops + sizeL G5.size c.Got + c.Terms.length
structure A2 where
  Node : Int
  Keys : List Str
  Got : List G5
  Time : Int
  Begin : Int
  End : Int
deriving DecidableEq, Inhabited
def A2.cs (c : A2) : List AV := [AV.int c.Node, strs c.Keys, AV.list 3 (c.Got.map G5.cs), AV.int c.Time, AV.int c.Begin, AV.int c.End]
def A2.size (c : A2) : Nat := sizeL (fun x => x.length) c.Keys + sizeL G5.size c.Got
structure TWorld where
  Now : Int
  Count : Int
  Clocks : List V6
  Cuts : List Str
  Groups : List TGroup
  Locks : List (List H8)
  Promised : List Int
  Txns : List A3
  Looks : List A2
deriving DecidableEq, Inhabited
def TWorld.cs (c : TWorld) : List AV := [AV.int c.Now, AV.int c.Count, AV.list 1 (c.Clocks.map V6.cs), strs c.Cuts, AV.list 3 (c.Groups.map TGroup.cs), AV.list 1 (c.Locks.map fun x => [AV.list 3 (x.map H8.cs)]), ints c.Promised, AV.list 10 (c.Txns.map A3.cs), AV.list 6 (c.Looks.map A2.cs)]
def TWorld.size (c : TWorld) : Nat := c.Clocks.length + sizeL (fun x => x.length) c.Cuts + sizeL TGroup.size c.Groups + sizeL (fun x => sizeL H8.size x) c.Locks + c.Promised.length + sizeL A3.size c.Txns + sizeL A2.size c.Looks
structure Q7 where
  Kind : Int
  At : Int
  By : Int
deriving DecidableEq, Inhabited
def Q7.cs (c : Q7) : List AV := [AV.int c.Kind, AV.int c.At, AV.int c.By]
theorem Q7.flat (c : Q7) : ∀ x ∈ c.cs, Flat x := (D2 (L6 _ _) (D2 (L6 _ _) (D2 (L6 _ _) M2)))
def Q7.size (c : Q7) : Nat := 0
structure C2 where
  Txn : Int
  Begin : Int
  End : Int
  Yes : Bool
  Look : Bool
  Time : Int
  Got : List G5
  Writes : List A9
deriving DecidableEq, Inhabited
def C2.cs (c : C2) : List AV := [AV.int c.Txn, AV.int c.Begin, AV.int c.End, AV.bool c.Yes, AV.bool c.Look, AV.int c.Time, AV.list 3 (c.Got.map G5.cs), AV.list 3 (c.Writes.map A9.cs)]
def C2.size (c : C2) : Nat := sizeL G5.size c.Got + sizeL A9.size c.Writes
structure j3 where
  Ver : Int
  Cuts : List Str
  Groups : List Int
deriving DecidableEq, Inhabited
def j3.cs (c : j3) : List AV := [AV.int c.Ver, strs c.Cuts, ints c.Groups]
def j3.size (c : j3) : Nat := sizeL (fun x => x.length) c.Cuts + c.Groups.length
structure BL1 where
  Maps : List j3
  Knows : List Int
deriving DecidableEq, Inhabited
def BL1.cs (c : BL1) : List AV := [AV.list 3 (c.Maps.map j3.cs), ints c.Knows]
def BL1.size (c : BL1) : Nat := sizeL j3.size c.Maps + c.Knows.length
structure TMove where
  Low : Str
  High : Str
  Phase : Int
  From : List A9
  To : List A9
  Last : Str
  Over : Bool
deriving DecidableEq, Inhabited
def TMove.cs (c : TMove) : List AV := [AV.str c.Low, AV.str c.High, AV.int c.Phase, AV.list 3 (c.From.map A9.cs), AV.list 3 (c.To.map A9.cs), AV.str c.Last, AV.bool c.Over]
def TMove.size (c : TMove) : Nat := c.Low.length + c.High.length + sizeL A9.size c.From + sizeL A9.size c.To + c.Last.length
structure AP3 where
  Kind : Int
  Write : A9
  Many : Int
deriving DecidableEq, Inhabited
def AP3.cs (c : AP3) : List AV := [AV.int c.Kind, AV.str c.Write.Key, AV.str c.Write.Val, AV.bool c.Write.Gone, AV.int c.Many]
theorem AP3.flat (c : AP3) : ∀ x ∈ c.cs, Flat x := (D2 (L6 _ _) (D2 (W7 _) (D2 (W7 _) (D2 (X3 _) (D2 (L6 _ _) M2)))))
def AP3.size (c : AP3) : Nat := c.Write.size
structure Y8 where
  Time : Int
  Group : Int
  Key : Str
  Val : Str
  Gone : Bool
deriving DecidableEq, Inhabited
def Y8.cs (c : Y8) : List AV := [AV.int c.Time, AV.int c.Group, AV.str c.Key, AV.str c.Val, AV.bool c.Gone]
theorem Y8.flat (c : Y8) : ∀ x ∈ c.cs, Flat x := (D2 (L6 _ _) (D2 (L6 _ _) (D2 (W7 _) (D2 (W7 _) (D2 (X3 _) M2)))))
def Y8.size (c : Y8) : Nat := c.Key.length + c.Val.length
structure AV4 where
  Done : Int
deriving DecidableEq, Inhabited
def AV4.cs (c : AV4) : List AV := [AV.int c.Done]
theorem AV4.flat (c : AV4) : ∀ x ∈ c.cs, Flat x := (D2 (L6 _ _) M2)
def AV4.size (c : AV4) : Nat := 0
structure AJ6 where
  Name : Str
  Col : Int
  Stage : Int
deriving DecidableEq, Inhabited
def AJ6.cs (c : AJ6) : List AV := [AV.str c.Name, AV.int c.Col, AV.int c.Stage]
theorem AJ6.flat (c : AJ6) : ∀ x ∈ c.cs, Flat x := (D2 (W7 _) (D2 (L6 _ _) (D2 (L6 _ _) M2)))
def AJ6.size (c : AJ6) : Nat := c.Name.length
structure AE6 where
  Name : Str
  Cols : List Str
  Idxs : List AJ6
deriving DecidableEq, Inhabited
def AE6.cs (c : AE6) : List AV := [AV.str c.Name, strs c.Cols, AV.list 3 (c.Idxs.map AJ6.cs)]
def AE6.size (c : AE6) : Nat := c.Name.length + sizeL (fun x => x.length) c.Cols + sizeL AJ6.size c.Idxs
structure TRow where
  Vals : List Str
deriving DecidableEq, Inhabited
def TRow.cs (c : TRow) : List AV := [strs c.Vals]
def TRow.size (c : TRow) : Nat := sizeL (fun x => x.length) c.Vals
structure AP4 where
  Kind : Int
  Old : TRow
  New : TRow
deriving DecidableEq, Inhabited
def AP4.cs (c : AP4) : List AV := [AV.int c.Kind, strs c.Old.Vals, strs c.New.Vals]
def AP4.size (c : AP4) : Nat := c.Old.size + c.New.size
structure TShift where
  Name : Str
  Ways : List AE6
  At : List Int
  Store : List A9
deriving DecidableEq, Inhabited
def TShift.cs (c : TShift) : List AV := [AV.str c.Name, AV.list 3 (c.Ways.map AE6.cs), ints c.At, AV.list 3 (c.Store.map A9.cs)]
def TShift.size (c : TShift) : Nat := c.Name.length + sizeL AE6.size c.Ways + c.At.length + sizeL A9.size c.Store
structure AS5 where
  Server : Int
  Step : Int
  Act : AP4
deriving DecidableEq, Inhabited
def AS5.cs (c : AS5) : List AV := [AV.int c.Server, AV.int c.Step, AV.int c.Act.Kind, strs c.Act.Old.Vals, strs c.Act.New.Vals]
def AS5.size (c : AS5) : Nat := c.Act.size
structure AL3 where
  Ver : Int
  Until : Int
deriving DecidableEq, Inhabited
def AL3.cs (c : AL3) : List AV := [AV.int c.Ver, AV.int c.Until]
theorem AL3.flat (c : AL3) : ∀ x ∈ c.cs, Flat x := (D2 (L6 _ _) (D2 (L6 _ _) M2))
def AL3.size (c : AL3) : Nat := 0
structure TRenew where
  Now : Int
  Master : V6
  Clocks : List V6
  Ver : Int
  Leases : List AL3
deriving DecidableEq, Inhabited
def TRenew.cs (c : TRenew) : List AV := [AV.int c.Now, AV.int c.Master.Off, AV.list 1 (c.Clocks.map V6.cs), AV.int c.Ver, AV.list 2 (c.Leases.map AL3.cs)]
def TRenew.size (c : TRenew) : Nat := c.Clocks.length + c.Leases.length
structure AL4 where
  Kind : Int
  Who : Int
  By : Int
deriving DecidableEq, Inhabited
def AL4.cs (c : AL4) : List AV := [AV.int c.Kind, AV.int c.Who, AV.int c.By]
theorem AL4.flat (c : AL4) : ∀ x ∈ c.cs, Flat x := (D2 (L6 _ _) (D2 (L6 _ _) (D2 (L6 _ _) M2)))
def AL4.size (c : AL4) : Nat := 0
structure Aa9 where
  Last : Str
  Over : Bool
deriving DecidableEq, Inhabited
def Aa9.cs (c : Aa9) : List AV := [AV.str c.Last, AV.bool c.Over]
theorem Aa9.flat (c : Aa9) : ∀ x ∈ c.cs, Flat x := (D2 (W7 _) (D2 (X3 _) M2))
def Aa9.size (c : Aa9) : Nat := c.Last.length
structure TWork where
  Shift : TShift
  Up : Aa9
  Down : Aa9
deriving DecidableEq, Inhabited
def TWork.cs (c : TWork) : List AV := [AV.str c.Shift.Name, AV.list 3 (c.Shift.Ways.map AE6.cs), ints c.Shift.At, AV.list 3 (c.Shift.Store.map A9.cs), AV.str c.Up.Last, AV.bool c.Up.Over, AV.str c.Down.Last, AV.bool c.Down.Over]
def TWork.size (c : TWork) : Nat := c.Shift.size + c.Up.size + c.Down.size
structure Al2 where
  Kind : Int
  Many : Int
  Act : AS5
deriving DecidableEq, Inhabited
def Al2.cs (c : Al2) : List AV := [AV.int c.Kind, AV.int c.Many, AV.int c.Act.Server, AV.int c.Act.Step, AV.int c.Act.Act.Kind, strs c.Act.Act.Old.Vals, strs c.Act.Act.New.Vals]
def Al2.size (c : Al2) : Nat := c.Act.size
structure Bd3 where
  Kind : Int
  Act : AP4
  Idx : Str
  Low : Str
  High : Str
deriving DecidableEq, Inhabited
def Bd3.cs (c : Bd3) : List AV := [AV.int c.Kind, AV.int c.Act.Kind, strs c.Act.Old.Vals, strs c.Act.New.Vals, AV.str c.Idx, AV.str c.Low, AV.str c.High]
def Bd3.size (c : Bd3) : Nat := c.Act.size + c.Idx.length + c.Low.length + c.High.length
structure Bd4 where
  Time : Int
  Rows : List A9
deriving DecidableEq, Inhabited
def Bd4.cs (c : Bd4) : List AV := [AV.int c.Time, AV.list 3 (c.Rows.map A9.cs)]
def Bd4.size (c : Bd4) : Nat := sizeL A9.size c.Rows
structure Bd5 where
  From : Int
  To : Int
  List_ : List Y8
deriving DecidableEq, Inhabited
def Bd5.cs (c : Bd5) : List AV := [AV.int c.From, AV.int c.To, AV.list 5 (c.List_.map Y8.cs)]
def Bd5.size (c : Bd5) : Nat := sizeL Y8.size c.List_
structure AJ7 where
  Ver : Int
  Fill : Bool
  Act : AP4
  Row : TRow
deriving DecidableEq, Inhabited
def AJ7.cs (c : AJ7) : List AV := [AV.int c.Ver, AV.bool c.Fill, AV.int c.Act.Kind, strs c.Act.Old.Vals, strs c.Act.New.Vals, strs c.Row.Vals]
def AJ7.size (c : AJ7) : Nat := c.Act.size + c.Row.size
structure TLive where
  Name : Str
  Ways : List AE6
  Low : Int
  Since : List Int
  Jobs : List AJ7
  World : TWorld
deriving DecidableEq, Inhabited
def TLive.cs (c : TLive) : List AV := [AV.str c.Name, AV.list 3 (c.Ways.map AE6.cs), AV.int c.Low, ints c.Since, AV.list 6 (c.Jobs.map AJ7.cs), AV.int c.World.Now, AV.int c.World.Count, AV.list 1 (c.World.Clocks.map V6.cs), strs c.World.Cuts, AV.list 3 (c.World.Groups.map TGroup.cs), AV.list 1 (c.World.Locks.map fun x => [AV.list 3 (x.map H8.cs)]), ints c.World.Promised, AV.list 10 (c.World.Txns.map A3.cs), AV.list 6 (c.World.Looks.map A2.cs)]
def TLive.size (c : TLive) : Nat := c.Name.length + sizeL AE6.size c.Ways + c.Since.length + sizeL AJ7.size c.Jobs + c.World.size
structure AP5 where
  Kind : Int
  Act : Q7
deriving DecidableEq, Inhabited
def AP5.cs (c : AP5) : List AV := [AV.int c.Kind, AV.int c.Act.Kind, AV.int c.Act.At, AV.int c.Act.By]
theorem AP5.flat (c : AP5) : ∀ x ∈ c.cs, Flat x := (D2 (L6 _ _) (D2 (L6 _ _) (D2 (L6 _ _) (D2 (L6 _ _) M2))))
def AP5.size (c : AP5) : Nat := 0
structure AC1 where
  From : Int
  To : Int
  Due : Int
  Body : Str
deriving DecidableEq, Inhabited
def AC1.cs (c : AC1) : List AV := [AV.int c.From, AV.int c.To, AV.int c.Due, AV.str c.Body]
theorem AC1.flat (c : AC1) : ∀ x ∈ c.cs, Flat x := (D2 (L6 _ _) (D2 (L6 _ _) (D2 (L6 _ _) (D2 (W7 _) M2))))
def AC1.size (c : AC1) : Nat := c.Body.length
structure TNet where
  Now : Int
  Homes : List Int
  Far : Int
  Under : List AC1
deriving DecidableEq, Inhabited
def TNet.cs (c : TNet) : List AV := [AV.int c.Now, ints c.Homes, AV.int c.Far, AV.list 4 (c.Under.map AC1.cs)]
def TNet.size (c : TNet) : Nat := c.Homes.length + sizeL AC1.size c.Under
structure AX8 where
  Up : Bool
  Term : Int
  For : Int
  Yes : List Int
  Leads : Bool
deriving DecidableEq, Inhabited
def AX8.cs (c : AX8) : List AV := [AV.bool c.Up, AV.int c.Term, AV.int c.For, ints c.Yes, AV.bool c.Leads]
def AX8.size (c : AX8) : Nat := c.Yes.length
structure As8 where
  Term : Int
  Who : Int
deriving DecidableEq, Inhabited
def As8.cs (c : As8) : List AV := [AV.int c.Term, AV.int c.Who]
theorem As8.flat (c : As8) : ∀ x ∈ c.cs, Flat x := (D2 (L6 _ _) (D2 (L6 _ _) M2))
def As8.size (c : As8) : Nat := 0
structure TPoll where
  Voters : List AX8
  Net : TNet
  Won : List As8
deriving DecidableEq, Inhabited
def TPoll.cs (c : TPoll) : List AV := [AV.list 5 (c.Voters.map AX8.cs), AV.int c.Net.Now, ints c.Net.Homes, AV.int c.Net.Far, AV.list 4 (c.Net.Under.map AC1.cs), AV.list 2 (c.Won.map As8.cs)]
def TPoll.size (c : TPoll) : Nat := sizeL AX8.size c.Voters + c.Net.size + c.Won.length
structure AP6 where
  Kind : Int
  Who : Int
  By : Int
deriving DecidableEq, Inhabited
def AP6.cs (c : AP6) : List AV := [AV.int c.Kind, AV.int c.Who, AV.int c.By]
theorem AP6.flat (c : AP6) : ∀ x ∈ c.cs, Flat x := (D2 (L6 _ _) (D2 (L6 _ _) (D2 (L6 _ _) M2)))
def AP6.size (c : AP6) : Nat := 0
end Go.M
namespace Go.M
def within (n lo hi : Int) : Bool := decide (lo ≤ n) && decide (n ≤ hi)
def lowDig (b : UInt8) : Bool := (decide ((97 : Int) ≤ (b.toNat : Int)) && decide ((b.toNat : Int) ≤ 122)) || (decide ((48 : Int) ≤ (b.toNat : Int)) && decide ((b.toNat : Int) ≤ 57))
def idxB (s : Str) (c : UInt8) : Int := firstIdx ⟨s.toArray⟩ c
def hasB (s o : Str) : Bool := s.all fun c => !(!lowDig c && decide (idxB o c < 0))
def goodKey (s : Str) : Bool := within s.length 1 12 && hasB s [46, 47]
def goodVal (s : Str) : Bool := decide ((s.length : Int) ≤ 24) && hasB s [46, 45, 44, 95]
def l3Bytes (s o : Str) : Bool := s.all fun c => (lowDig c || o.any fun d => ((c.toNat : Int) == (d.toNat : Int)))
def l3Key (s : Str) : Bool := within s.length 1 12 && l3Bytes s [46, 47]
theorem BT0 (c : UInt8) (s o : Str) : hasB (c :: s) o = (!(!lowDig c && decide (idxB o c < 0)) && hasB s o) := rfl
theorem Ao6 (c : UInt8) (s o : Str) : l3Bytes (c :: s) o = ((lowDig c || o.any fun d => ((c.toNat : Int) == (d.toNat : Int))) && l3Bytes s o) := rfl
theorem idxB_neg (o : Str) (c : UInt8) : decide (idxB o c < 0) = !(o.any fun d => ((c.toNat : Int) == (d.toNat : Int))) := by
  have hm : (o.any fun d => ((c.toNat : Int) == (d.toNat : Int))) = decide (c ∈ o) := by
    rw [Bool.eq_iff_iff]
    simp only [List.any_eq_true, beq_iff_eq, decide_eq_true_eq]
    constructor
    · rintro ⟨d, hd, he⟩
      have : c = d := UInt8.toNat_inj.1 (by exact_mod_cast he)
      exact this ▸ hd
    · intro h; exact ⟨c, h, rfl⟩
  rw [hm]
  unfold idxB firstIdx
  have hsz : (ByteArray.mk o.toArray).size = o.length := by simp [ByteArray.size]
  have hget : ∀ i, i < o.length → (ByteArray.mk o.toArray)[i]! = o[i]! := fun i hi => by
    simp [getElem!_def, ByteArray.getElem?_lt', hsz, hi]
    rfl
  rw [hsz]
  cases hf : (List.range o.length).find? fun i => (ByteArray.mk o.toArray)[i]! == c with
  | some i =>
    have h1 := List.find?_some hf
    have h2 := List.mem_range.1 (List.mem_of_find?_eq_some hf)
    rw [hget i h2] at h1
    have h3 : c ∈ o := by
      have : o[i]! = c := by simpa using h1
      rw [← this, getElem!_pos o i h2]
      exact List.getElem_mem h2
    simp [h3]
  | none =>
    have h1 := List.find?_eq_none.1 hf
    have h3 : ¬ c ∈ o := fun hm => by
      obtain ⟨i, hi, he⟩ := List.getElem_of_mem hm
      have := h1 i (List.mem_range.2 hi)
      rw [hget i hi, getElem!_pos o i hi, he] at this
      simp at this
    simp [h3]
theorem Bu3 (s o : Str) : hasB s o = l3Bytes s o := by
  unfold hasB l3Bytes
  congr 1
  funext c
  rw [idxB_neg]
  cases lowDig c <;> simp
theorem z6 (s : Str) : goodKey s = l3Key s := by unfold goodKey l3Key; rw [Bu3]
theorem I4 : ∀ a : Str, Op.bytesLess a a = false
  | [] => rfl
  | a :: x => by simp [Op.bytesLess, I4 x]
theorem T4 : ∀ a b : Str, Op.bytesLess a b = !(Op.bytesLess b a || b == a)
  | [], [] => rfl
  | [], _ :: _ => rfl
  | _ :: _, [] => rfl
  | a :: x, b :: y => by
    have ih := T4 x y
    simp only [Op.bytesLess]
    by_cases hab : a = b
    · subst hab
      simp [ih]
    · have h1 : (a == b) = false := by simpa using hab
      have h2 : (b == a) = false := by simpa using fun h => hab h.symm
      have h3 : (b :: y == a :: x) = false := by simp [h2]
      simp only [h1, h2, h3, Bool.false_and, Bool.or_false]
      rw [Bool.eq_iff_iff]
      simp only [decide_eq_true_eq, Bool.not_eq_true', decide_eq_false_iff_not, UInt8.not_lt]
      constructor
      · exact UInt8.le_of_lt
      · exact fun h => UInt8.lt_of_le_of_ne h hab
def adj {α : Type} (p : α → α → Bool) : List α → Bool
  | [] => true
  | [_] => true
  | x :: y :: l => p x y && adj p (y :: l)
theorem Bf7 {α : Type} {l : List α} {k : Nat} {x y : α} (hy : l[k]? = some y) (hx : l[k + 1]? = some x) : l.drop k = y :: x :: l.drop (k + 2) := by
  rw [Go.AV.drop_some hy, Go.AV.drop_some hx]
theorem AJ0 {α : Type} {p : α → α → Bool} {l : List α} {i : Nat} {x y : α} (hx : l[i]? = some x) (hy : l[i - 1]? = some y) (h : 0 < i → p y x = true) : adj p (l.drop (i - 1)) = adj p (l.drop (i + 1 - 1)) := by
  cases i with
  | zero => rfl
  | succ k =>
    simp only [Nat.add_sub_cancel] at *
    rw [Bf7 hy hx, Go.AV.drop_some hx, adj, h qz8, Bool.true_and]
theorem AJ1 {α : Type} {p : α → α → Bool} {l : List α} {i : Nat} {x y : α} (hx : l[i]? = some x) (hy : l[i - 1]? = some y) (h0 : 0 < i) (h : p y x = false) : adj p (l.drop (i - 1)) = false := by
  cases i with
  | zero => omega
  | succ k =>
    simp only [Nat.add_sub_cancel] at *
    rw [Bf7 hy hx, adj, h, Bool.false_and]
theorem AO4 {α : Type} {p : α → α → Bool} {l : List α} {i : Nat} (h : l.length ≤ i) : adj p (l.drop (i - 1)) = true := by
  have hl : (l.drop (i - 1)).length ≤ 1 := by rw [List.length_drop]; omega
  match hd : l.drop (i - 1), hl with
  | [], _ => rfl
  | [x], _ => rfl
def w4 (t : Int) : Bool := within t 1 100000
def isStored (val : Str) (gone : Bool) : Bool := goodVal val && !(gone && val != [])
def l3Val (s : Str) : Bool := decide ((s.length : Int) ≤ 24) && l3Bytes s [46, 45, 44, 95]
def l3Write (key val : Str) (gone : Bool) : Bool := l3Key key && l3Val val && (!gone || val == [])
def cmpInt (x y : Int) : Int := if x < y then -1 else if y < x then 1 else 0
def cmpStr (x y : Str) : Int := if Op.bytesLess x y then -1 else if Op.bytesLess y x then 1 else 0
def orInt : List Int → Int
  | [] => 0
  | x :: l => if x = 0 then orInt l else x
theorem BF4 (s : Str) : goodVal s = l3Val s := by unfold goodVal l3Val; rw [Bu3]
theorem Ac3 (s : Str) (g : Bool) : isStored s g = (l3Val s && (!g || s == [])) := by
  unfold isStored; rw [BF4]; cases g <;> simp [bne]
theorem Ai4 {α : Type} {p : α → Bool} {l : List α} {i : Nat} {x : α} (hx : l[i]? = some x) (h : p x = true) : (l.drop i).all p = (l.drop (i + 1)).all p := by
  rw [Go.AV.drop_some hx, List.all_cons, h, Bool.true_and]
theorem Ai5 {α : Type} {p : α → Bool} {l : List α} {i : Nat} {x : α} (hx : l[i]? = some x) (h : p x = false) : (l.drop i).all p = false := by
  rw [Go.AV.drop_some hx, List.all_cons, h, Bool.false_and]
theorem Av2 {α : Type} {p : α → Bool} {l : List α} {i : Nat} (h : l.length ≤ i) : (l.drop i).all p = true := by
  rw [List.drop_eq_nil_of_le h]; rfl
theorem AI0 {α β : Type} {f : α → β} {l : List α} {i : Nat} {x : α} (h : l[i]? = some x) : (l.take i).map f ++ [f x] = (l.take (i + 1)).map f := by
  rw [List.take_add_one, h]; simp
def areRising (l : List Str) : Bool := l.all goodKey && adj Op.bytesLess l
def O8 (l : List A9) : List Str := l.map A9.Key
def goodWrites (l : List A9) : Bool := decide ((l.length : Int) ≤ 24) && areRising (O8 l) && !(l.any fun w => !isStored w.Val w.Gone)
def wLess (a b : A9) : Bool := Op.bytesLess a.Key b.Key
def wGood (w : A9) : Bool := l3Write w.Key w.Val w.Gone
def l3Writes (l : List A9) : Bool := (l.all wGood && adj wLess l) && decide ((l.length : Int) ≤ 24)
theorem Av3 {α β : Type} (f : α → β) (p : β → β → Bool) : ∀ l : List α, adj p (l.map f) = adj (fun a b => p (f a) (f b)) l
  | [] => rfl
  | [_] => rfl
  | x :: y :: l => by
    have := Av3 f p (y :: l)
    simp only [List.map_cons, adj] at *
    rw [this]
theorem AI1 (l : List A9) : goodWrites l = l3Writes l := by
  unfold goodWrites l3Writes areRising O8
  rw [Av3, List.all_map, List.not_any_eq_all_not]
  have h2 : l.all wGood = ((l.all (goodKey ∘ A9.Key)) && l.all fun w => l3Val w.Val && (!w.Gone || w.Val == [])) := by
    induction l with
    | nil => rfl
    | cons w l ih =>
      simp only [List.all_cons, ih, wGood, l3Write, Function.comp, z6, Bool.and_assoc]
      cases l3Key w.Key <;> cases l3Val w.Val <;> cases (!w.Gone || w.Val == []) <;> simp only [Bool.true_and, Bool.and_true, Bool.false_and, Bool.and_false]
  have h1 : (l.all fun w => !!isStored w.Val w.Gone) = l.all fun w => l3Val w.Val && (!w.Gone || w.Val == []) := by
    congr 1; funext w; rw [Bool.not_not, Ac3]
  rw [h1, h2]
  show _ = _
  have h3 : adj (fun a b => Op.bytesLess a.Key b.Key) l = adj wLess l := rfl
  rw [h3]
  cases l.all (goodKey ∘ A9.Key) <;> cases adj wLess l <;> cases decide ((l.length : Int) ≤ 24) <;> cases (l.all fun w => l3Val w.Val && (!w.Gone || w.Val == [])) <;> rfl
structure TSrc where
  at' : Nat
  bad : Bool
end Go.M
namespace Go.M
open Go.AV
def isTxnR (n : Int) : Bool := within n 1 60
def bareR (r : L1) : Bool := ((r.Lead == 0) && ((r.Reads.length : Int) == 0)) && ((r.Writes.length : Int) == 0)
def good1 (r : L1) : Bool := (((((((isTxnR r.Txn && w4 r.Time) && within r.Lead 0 3) && decide ((r.Reads.length : Int) ≤ 8)) && areRising r.Reads) && decide ((r.Writes.length : Int) ≤ 8)) && goodWrites r.Writes) && decide (0 < (r.Reads.length : Int) + (r.Writes.length : Int))) && !r.Yes
def good2 (r : L1) : Bool := (bareR r && isTxnR r.Txn) && ((r.Yes && w4 r.Time) || (!r.Yes && (r.Time == 0)))
def good4 (r : L1) : Bool := ((bareR r && (r.Txn == 0)) && w4 r.Time) && !r.Yes
def goodRec (r : L1) : Bool := if r.Kind = 1 then good1 r else if r.Kind = 2 ∨ r.Kind = 3 then good2 r else if r.Kind = 4 then good4 r else false
def l4Keys (l : List Str) : Bool := (l.all l3Key && adj Op.bytesLess l) && decide ((l.length : Int) ≤ 8)
def AT2 (r : L1) : Bool := (r.Kind != 1) && ((r.Lead != 0) || decide (0 < (r.Reads.length : Int) + (r.Writes.length : Int)))
def l4G1 (r : L1) : Bool := ((((((within r.Txn 1 60 && within r.Time 1 100000) && within r.Lead 0 3) && l4Keys r.Reads) && l3Writes r.Writes) && within (r.Writes.length : Int) 0 8) && decide (0 < (r.Reads.length : Int) + (r.Writes.length : Int))) && !r.Yes
def l4G2 (r : L1) : Bool := within r.Txn 1 60 && ((r.Yes && within r.Time 1 100000) || (!r.Yes && (r.Time == 0)))
def l4G4 (r : L1) : Bool := (((r.Kind == 4) && (r.Txn == 0)) && within r.Time 1 100000) && !r.Yes
def l4Good (r : L1) : Bool := if AT2 r = true then false else if r.Kind = 1 then l4G1 r else if r.Kind = 2 ∨ r.Kind = 3 then l4G2 r else l4G4 r
theorem bare_odd {r : L1} (h : r.Kind ≠ 1) : bareR r = !AT2 r := by
  have hk : (r.Kind != 1) = true := by simpa using h
  unfold bareR AT2
  rw [hk, Bool.true_and, Bool.eq_iff_iff]
  simp only [Bool.and_eq_true, beq_iff_eq, Bool.not_eq_true', Bool.or_eq_false_iff, bne_eq_false_iff_eq, decide_eq_false_iff_not]
  omega
theorem keys_eq (l : List Str) : (decide ((l.length : Int) ≤ 8) && areRising l) = l4Keys l := by
  unfold areRising l4Keys
  rw [show l.all goodKey = l.all l3Key by congr 1; funext s; rw [z6]]
  rw [Bool.and_comm]
theorem AM3 (r : L1) : goodRec r = l4Good r := by
  unfold goodRec l4Good
  by_cases h1 : r.Kind = 1
  · have ho : AT2 r = false := by unfold AT2; rw [h1]; rfl
    rw [if_pos h1, ho, if_neg D3, if_pos h1]
    unfold good1 l4G1
    rw [← keys_eq, ← AI1]
    have hw : within (r.Writes.length : Int) 0 8 = decide ((r.Writes.length : Int) ≤ 8) := by unfold within; simp
    rw [hw]
    unfold isTxnR w4
    cases within r.Txn 1 60 <;> cases within r.Time 1 100000 <;> cases within r.Lead 0 3 <;> cases decide ((r.Reads.length : Int) ≤ 8) <;> cases areRising r.Reads <;> cases decide ((r.Writes.length : Int) ≤ 8) <;> cases goodWrites r.Writes <;> simp
  · have hb := bare_odd h1
    rw [if_neg h1, if_neg h1]
    by_cases h2 : r.Kind = 2 ∨ r.Kind = 3
    · rw [if_pos h2, if_pos h2]
      unfold good2 l4G2
      rw [hb]
      cases AT2 r <;> simp [isTxnR, w4]
    · rw [if_neg h2, if_neg h2]
      unfold l4G4
      by_cases h4 : r.Kind = 4
      · rw [if_pos h4]
        unfold good4
        rw [hb, h4]
        cases AT2 r <;> simp [w4]
      · rw [if_neg h4]
        have e4 : (r.Kind == 4) = false := by simpa using h4
        rw [e4]; cases AT2 r <;> simp
structure GoodR (r : L1) : Prop where
  kind : 1 ≤ r.Kind ∧ r.Kind ≤ 4
  txn : 0 ≤ r.Txn ∧ r.Txn ≤ 60
  time : 0 ≤ r.Time ∧ r.Time ≤ 100000
  lead : 0 ≤ r.Lead ∧ r.Lead ≤ 3
  reads : r.Reads.length ≤ 8 ∧ ∀ s ∈ r.Reads, l3Key s = true
  writes : r.Writes.length ≤ 8 ∧ ∀ w ∈ r.Writes, l3Key w.Key = true ∧ l3Val w.Val = true ∧ (w.Gone = true → w.Val = [])
theorem BT1 {r : L1} (h : bareR r = true) : r.Lead = 0 ∧ r.Reads = [] ∧ r.Writes = [] := by
  unfold bareR at h
  simp only [Bool.and_eq_true, beq_iff_eq] at h
  exact ⟨h.1.1, List.eq_nil_of_length_eq_zero qz8, List.eq_nil_of_length_eq_zero qz8⟩
theorem goodR {r : L1} (h : goodRec r = true) : GoodR r := by
  unfold goodRec at h
  split at h
  · rename_i hk
    unfold good1 isTxnR w4 within at h
    simp only [Bool.and_eq_true, decide_eq_true_eq] at h
    obtain ⟨⟨⟨⟨⟨⟨⟨⟨h1, h2⟩, h3⟩, h4⟩, h5⟩, h6⟩, h7⟩, _⟩, _⟩ := h
    rw [AI1] at h7
    unfold l3Writes at h7
    unfold areRising at h5
    simp only [Bool.and_eq_true, List.all_eq_true] at h5 h7
    refine ⟨by omega, by omega, by omega, by omega, ⟨by omega, fun s hs => by rw [← z6]; exact h5.1 s hs⟩, ⟨by omega, fun w hw => ?_⟩⟩
    have := h7.1.1 w hw
    unfold wGood l3Write at this
    simp only [Bool.and_eq_true, Bool.or_eq_true, Bool.not_eq_true'] at this
    exact ⟨this.1.1, this.1.2, fun e => by rcases this.2 with g | g; rw [e] at g; cases g; simpa using g⟩
  · split at h
    · rename_i hk
      unfold good2 isTxnR w4 within at h
      simp only [Bool.and_eq_true, Bool.or_eq_true, decide_eq_true_eq, beq_iff_eq, Bool.not_eq_true'] at h
      obtain ⟨⟨h1, h2⟩, h3⟩ := h
      obtain ⟨l1, l2, l3⟩ := BT1 h1
      refine ⟨by omega, by omega, by omega, by omega, by rw [l2]; exact ⟨Nat.zero_le _, fun s hs => by cases hs⟩, by rw [l3]; exact ⟨Nat.zero_le _, fun s hs => by cases hs⟩⟩
    · split at h
      · rename_i hk
        unfold good4 w4 within at h
        simp only [Bool.and_eq_true, decide_eq_true_eq, beq_iff_eq, Bool.not_eq_true'] at h
        obtain ⟨⟨⟨h1, h2⟩, h3⟩, _⟩ := h
        obtain ⟨l1, l2, l3⟩ := BT1 h1
        refine ⟨by omega, by omega, by omega, by omega, by rw [l2]; exact ⟨Nat.zero_le _, fun s hs => by cases hs⟩, by rw [l3]; exact ⟨Nat.zero_le _, fun s hs => by cases hs⟩⟩
      · cases h
theorem BF5 {s : Str} (h : l3Key s = true) : s.length ≤ 12 := by
  unfold l3Key within at h
  simp only [Bool.and_eq_true, decide_eq_true_eq] at h
  have := h.1; omega
theorem Bx8 {s : Str} (h : l3Val s = true) : s.length ≤ 24 := by
  unfold l3Val at h
  simp only [Bool.and_eq_true, decide_eq_true_eq] at h
  have := h.1; omega
set_option linter.unusedSectionVars false
section
variable {α : Type} [Inhabited α]
structure Swo (lt : α → α → Bool) : Prop where
  asym : ∀ a b, lt a b = true → lt b a = false
  ntr : ∀ a b c, lt b a = false → lt c b = false → lt c a = false
def InR (l : List α) (a b : Nat) (x : α) : Prop := ∃ i, a ≤ i ∧ i < b ∧ l[i]? = some x
structure BR4 (l l' : List α) (a b : Nat) : Prop where
  len : l'.length = l.length
  perm : l'.Perm l
  out : ∀ i, i < a ∨ b ≤ i → l'[i]? = l[i]?
  inn : ∀ x, InR l' a b x → InR l a b x
theorem BR4.refl (l : List α) (a b : Nat) : BR4 l l a b := ⟨rfl, List.Perm.refl _, fun _ _ => rfl, fun _ h => h⟩
theorem BR4.trans {l l' l'' : List α} {a b : Nat} (h : BR4 l l' a b) (k : BR4 l' l'' a b) : BR4 l l'' a b :=
  ⟨k.len.trans h.len, k.perm.trans h.perm, fun i hi => (k.out i hi).trans (h.out i hi), fun x hx => h.inn x (k.inn x hx)⟩
end
section
variable {α : Type} [Inhabited α] [DecidableEq α]
def cmpN (l : List α) : Nat → List α
  | 0 => []
  | n + 1 => if n ≠ 0 ∧ l[n]? = l[n - 1]? then cmpN l n else cmpN l n ++ (l[n]?).toList
def cmpL (l : List α) : List α := cmpN l l.length
theorem Bf8 (l : List α) : ∀ n, (cmpN l n).length ≤ n
  | 0 => Nat.le_refl _
  | n + 1 => by
    have h := Bf8 l n
    show (if n ≠ 0 ∧ l[n]? = l[n - 1]? then cmpN l n else cmpN l n ++ (l[n]?).toList).length ≤ n + 1
    split
    · omega
    · rw [G3]
      cases l[n]? <;> simp <;> omega
end
end Go.M
namespace Go.M
theorem P5 : ∀ {a b c : Str}, Op.bytesLess a b = true → Op.bytesLess b c = true → Op.bytesLess a c = true
  | [], b, c, h1, h2 => by
    cases c with
    | nil => cases b <;> simp [Op.bytesLess] at h2
    | cons z c => rfl
  | x :: a, [], _, h1, _ => by simp [Op.bytesLess] at h1
  | x :: a, y :: b, [], _, h2 => by simp [Op.bytesLess] at h2
  | x :: a, y :: b, z :: c, h1, h2 => by
    simp only [Op.bytesLess, Bool.or_eq_true, Bool.and_eq_true, decide_eq_true_eq, beq_iff_eq] at h1 h2 ⊢
    rcases h1 with h1 | ⟨h1, h1'⟩
    · rcases h2 with h2 | ⟨h2, _⟩
      · exact .inl (UInt8.lt_trans h1 h2)
      · subst h2; exact .inl h1
    · subst h1
      rcases h2 with h2 | ⟨h2, h2'⟩
      · exact .inl h2
      · exact .inr ⟨h2, P5 h1' h2'⟩
theorem Ai6 (a b : Str) : cmpStr a b < 0 ↔ Op.bytesLess a b = true := by
  unfold cmpStr
  cases h1 : Op.bytesLess a b
  · cases h2 : Op.bytesLess b a <;> simp
  · simp
theorem Ax7 (a b : Str) : cmpStr a b = 0 ↔ a = b := by
  unfold cmpStr
  have h3 := T4 a b
  cases h1 : Op.bytesLess a b
  · cases h2 : Op.bytesLess b a
    · rw [h1, h2] at h3; simp at h3; simp [h3]
    · simp; intro h; subst h; rw [h1] at h2; cases h2
  · simp; intro h; subst h; rw [I4] at h1; cases h1
theorem Av4 {α : Type} {p : α → α → Bool} (tr : ∀ a b c, p a b = true → p b c = true → p a c = true) : ∀ {l : List α} {x : α}, adj p (x :: l) = true → ∀ y ∈ l, p x y = true
  | [], _, _, y, hy => by simp at hy
  | z :: l, x, h, y, hy => by
    simp only [adj, Bool.and_eq_true] at h
    rcases List.mem_cons.1 hy with rfl | hy
    · exact h.1
    · exact tr _ _ _ h.1 (Av4 tr h.2 y hy)
theorem Ai7 {α : Type} {p : α → α → Bool} {l : List α} {x : α} (h : adj p (x :: l) = true) : adj p l = true := by
  cases l with
  | nil => rfl
  | cons y l => simp only [adj, Bool.and_eq_true] at h; exact h.2
theorem AF4 {α : Type} {p : α → α → Bool} (tr : ∀ a b c, p a b = true → p b c = true → p a c = true) : ∀ {l : List α}, adj p l = true → ∀ {i j : Nat} {x y : α}, i < j → l[i]? = some x → l[j]? = some y → p x y = true
  | [], _, i, j, x, y, _, hx, _ => by simp at hx
  | z :: l, h, 0, j + 1, x, y, _, hx, hy => by
    simp at hx; subst hx
    exact Av4 tr h y (C4 AQ0)
  | z :: l, h, i + 1, j + 1, x, y, hij, hx, hy => AF4 tr (Ai7 h) (by omega : i < j) y8 AQ0
theorem bs_spec {α : Type} (f : α → Int) (l : List α) (down : ∀ (i j : Nat) (x y : α), i < j → l[i]? = some x → l[j]? = some y → f y < 0 → f x < 0) : ∀ (d i j : Nat), j - i = d → i ≤ j → j ≤ l.length →
    (∀ k x, k < i → l[k]? = some x → f x < 0) → (∀ x, l[j]? = some x → ¬ f x < 0) → (∀ k x, k < bs f l i j → l[k]? = some x → f x < 0) ∧ (∀ x, l[bs f l i j]? = some x → ¬ f x < 0) := by
  intro d
  induction d using Nat.strongRecOn with
  | _ d ih =>
    intro i j hd hij hjl hlo hhi
    by_cases h : i < j
    · obtain ⟨x, hx⟩ := Go.AV.get_some (show (i + j) / 2 < l.length by omega)
      by_cases hf : f x < 0
      · rw [bs_lo h hx hf]
        refine ih (j - ((i + j) / 2 + 1)) qz8 _ _ rfl qz8 hjl (fun k y hk hy => ?_) hhi
        rcases Nat.lt_or_ge k ((i + j) / 2) with h1 | h1
        · exact down k _ y x h1 hy hx hf
        · have : k = (i + j) / 2 := by omega
          subst this
          rw [hx] at hy; injection hy with hy; subst hy; exact hf
      · rw [bs_hi h hx hf]
        exact ih ((i + j) / 2 - i) qz8 _ _ rfl qz8 qz8 hlo (fun y hy => by rw [hx] at hy; injection hy with hy; subst hy; exact hf)
    · rw [Bf6 h]
      have : i = j := by omega
      subst this
      exact ⟨hlo, hhi⟩
def As9 (k : Str) (w : A9) : Int := cmpStr w.Key k
def wPos (l : List A9) (k : Str) : Nat := bs (As9 k) l 0 l.length
def wHas (l : List A9) (k : Str) : Bool := BR3 (As9 k) l (wPos l k)
theorem X8 (a b c : A9) (h : wLess a b = true) (k : wLess b c = true) : wLess a c = true := P5 h k
theorem BT2 {l : List A9} (h : adj wLess l = true) (k : Str) : (∀ i x, i < wPos l k → l[i]? = some x → Op.bytesLess x.Key k = true) ∧ (∀ x, l[wPos l k]? = some x → Op.bytesLess x.Key k = false) := by
  have := bs_spec (As9 k) l (fun i j x y hij hx hy hf => by
    unfold As9 at *
    rw [Ai6] at *
    exact P5 (AF4 X8 h hij hx hy) hf) l.length 0 l.length rfl (Nat.zero_le _) (Nat.le_refl _) (fun k x hk => by omega) (fun x hx => by rw [List.getElem?_eq_none (Nat.le_refl _)] at hx; cases hx)
  refine ⟨fun i x hi hx => (Ai6 _ _).1 (this.1 i x hi hx), fun x hx => ?_⟩
  have h2 := this.2 x hx
  unfold As9 at h2
  rw [Ai6] at h2
  simpa using h2
def findW (l : List A9) (k : Str) : Option A9 := l.find? fun w => w.Key == k
theorem findW_eq {l : List A9} (h : adj wLess l = true) (k : Str) : findW l k = if wHas l k = true then l[wPos l k]? else none := by
  obtain ⟨h1, h2⟩ := BT2 h k
  have hat : ∀ w ∈ l, w.Key = k → l[wPos l k]? = some w := fun w hw he => by
    obtain ⟨i, hi⟩ := List.getElem?_of_mem hw
    rcases Nat.lt_trichotomy i (wPos l k) with hlt | heq | hgt
    · have := h1 i w hlt hi
      rw [he, I4] at this; cases this
    · rw [← heq]; exact hi
    · obtain ⟨y, hy⟩ := Go.AV.get_some (show wPos l k < l.length by have := (List.getElem?_eq_some_iff.1 hi).1; omega)
      have h3 := h2 y hy
      have h4 := AF4 X8 h hgt hy hi
      unfold wLess at h4
      rw [he, h3] at h4; cases h4
  unfold wHas BR3 findW
  cases hp : l[wPos l k]? with
  | none =>
    simp only [Bool.false_eq_true, if_false]
    rw [List.find?_eq_none]
    intro w hw
    simp only [beq_iff_eq]
    intro he
    have := hat w hw he
    rw [hp] at this; cases this
  | some y =>
    simp only [As9, beq_iff_eq, Ax7]
    by_cases hk : y.Key = k
    · rw [if_pos hk]
      cases hf : l.find? fun w => w.Key == k with
      | none =>
        have := List.find?_eq_none.1 hf y (C4 hp)
        simp [hk] at this
      | some w =>
        have h5 := List.find?_some hf
        have h6 := hat w (List.mem_of_find?_eq_some hf) (by simpa using h5)
        rw [hp] at h6; exact h6.symm
    · rw [if_neg hk, List.find?_eq_none]
      intro w hw
      simp only [beq_iff_eq]
      intro he
      have := hat w hw he
      rw [hp] at this; injection this with this; subst this; exact hk he
def gotOf (l : List A9) (k : Str) : G5 := if wHas l k = true then (match l[wPos l k]? with | some w => ⟨k, w.Val, true⟩ | none => ⟨k, [], true⟩) else ⟨k, [], false⟩
def ins : List A9 → A9 → List A9
  | [], w => [w]
  | x :: l, w => if Op.bytesLess x.Key w.Key = true then x :: ins l w else if x.Key = w.Key then w :: l else w :: x :: l
theorem Ao7 {w : A9} : ∀ {l : List A9} {p : Nat}, p ≤ l.length → (∀ i x, i < p → l[i]? = some x → Op.bytesLess x.Key w.Key = true) → (∀ x, l[p]? = some x → Op.bytesLess x.Key w.Key = false) →
    ins l w = if (∃ x, l[p]? = some x ∧ x.Key = w.Key) then l.set p w else l.take p ++ w :: l.drop p
  | [], p, hp, _, _ => by simp at hp; subst hp; simp [ins]
  | x :: l, 0, _, _, h2 => by
    have h := h2 x rfl
    unfold ins
    rw [h]
    by_cases hk : x.Key = w.Key
    · rw [if_neg D3, if_pos hk, if_pos ⟨x, rfl, hk⟩]; rfl
    · rw [if_neg D3, if_neg hk, if_neg (fun ⟨y, hy, hyk⟩ => by simp at hy; subst hy; exact hk hyk)]; rfl
  | x :: l, p + 1, hp, h1, h2 => by
    have h := h1 0 x qz8 rfl
    unfold ins
    rw [if_pos h, Ao7 (l := l) (p := p) (by simpa using hp) (fun i y hi hy => h1 (i + 1) y qz8 AQ0) (fun y hy => h2 y AQ0)]
    simp only [AY4, AQ2, AL9, AY5]
    split <;> simp
def putW (l : List A9) (w : A9) : List A9 := if wHas l w.Key = true then l.set (wPos l w.Key) w else l.take (wPos l w.Key) ++ w :: l.drop (wPos l w.Key)
theorem bs_le {α : Type} (f : α → Int) (l : List α) : ∀ (d i j : Nat), j - i = d → i ≤ j → j ≤ l.length → bs f l i j ≤ j := by
  intro d
  induction d using Nat.strongRecOn with
  | _ d ih =>
    intro i j hd hij hjl
    by_cases h : i < j
    · obtain ⟨x, hx⟩ := Go.AV.get_some (show (i + j) / 2 < l.length by omega)
      by_cases hf : f x < 0
      · rw [bs_lo h hx hf]
        exact ih (j - ((i + j) / 2 + 1)) qz8 _ _ rfl qz8 hjl
      · rw [bs_hi h hx hf]
        exact Nat.le_trans (ih ((i + j) / 2 - i) qz8 _ _ rfl qz8 qz8) qz8
    · rw [Bf6 h]; exact hij
theorem Bu4 (l : List A9) (k : Str) : wPos l k ≤ l.length := bs_le _ _ _ _ _ rfl (Nat.zero_le _) (Nat.le_refl _)
theorem AO5 {l : List A9} {k : Str} : wHas l k = true ↔ ∃ x, l[wPos l k]? = some x ∧ x.Key = k := by
  unfold wHas BR3
  cases h : l[wPos l k]? with
  | none => simp
  | some x => simp [As9, Ax7]
theorem putW_ins {l : List A9} (h : adj wLess l = true) (w : A9) : putW l w = ins l w := by
  obtain ⟨h1, h2⟩ := BT2 h w.Key
  rw [Ao7 (Bu4 l w.Key) h1 h2]
  unfold putW
  by_cases hw : wHas l w.Key = true
  · rw [if_pos hw, if_pos (AO5.1 hw)]
  · rw [if_neg hw, if_neg (fun h => hw (AO5.2 h))]
def scanW (l : List A9) (k : Str) : Nat → Nat
  | 0 => 0
  | n + 1 => match l[n]? with
    | some x => if Op.bytesLess k x.Key = true then scanW l k n else n + 1
    | none => n + 1
def BR5 (l : List A9) (k : Str) : Nat → Bool
  | 0 => false
  | n + 1 => match l[n]? with
    | some x => x.Key == k
    | none => false
def putWS (l : List A9) (w : A9) : List A9 :=
  if BR5 l w.Key (scanW l w.Key l.length) = true then l.set (scanW l w.Key l.length - 1) w else l.take (scanW l w.Key l.length) ++ w :: l.drop (scanW l w.Key l.length)
theorem Bf9 (l : List A9) (k : Str) : ∀ n, scanW l k n ≤ n
  | 0 => Nat.le_refl _
  | n + 1 => by
    unfold scanW
    split
    · split
      · exact Nat.le_succ_of_le (Bf9 l k n)
      · exact Nat.le_refl _
    · exact Nat.le_refl _
theorem BF6 (l : List A9) (k : Str) : ∀ n, n ≤ l.length → (∀ i x, scanW l k n ≤ i → i < n → l[i]? = some x → Op.bytesLess k x.Key = true) ∧ (∀ x, 0 < scanW l k n → l[scanW l k n - 1]? = some x → Op.bytesLess k x.Key = false)
  | 0, _ => ⟨fun i x h1 h2 => by omega, fun x h => by simp [scanW] at h⟩
  | n + 1, hn => by
    obtain ⟨x, hx⟩ := Go.AV.get_some (show n < l.length by omega)
    have ih := BF6 l k n qz8
    unfold scanW
    simp only [hx]
    by_cases hb : Op.bytesLess k x.Key = true
    · rw [if_pos hb]
      refine ⟨fun i y h1 h2 hy => ?_, ih.2⟩
      rcases Nat.lt_or_ge i n with h3 | h3
      · exact ih.1 i y h1 h3 hy
      · have : i = n := by omega
        subst this
        rw [hx] at hy; injection hy with hy; subst hy; exact hb
    · rw [if_neg hb]
      refine ⟨fun i y h1 h2 hy => by omega, fun y _ hy => ?_⟩
      rw [Nat.add_sub_cancel, hx] at hy; injection hy with hy; subst hy
      simpa using hb
theorem BT4 {l : List A9} (h : adj wLess l = true) (w : A9) : putWS l w = ins l w := by
  obtain ⟨h1, h2⟩ := BF6 l w.Key l.length (Nat.le_refl _)
  have hle := Bf9 l w.Key l.length
  unfold putWS
  generalize scanW l w.Key l.length = k at *
  cases k with
  | zero =>
    rw [if_neg (by simp [BR5]), Ao7 (l := l) (p := 0) (Nat.zero_le _) (fun i x h => by omega) (fun x hx => by
      have h3 := h1 0 x (Nat.le_refl _) (List.getElem?_eq_some_iff.1 hx).1 hx
      cases hb : Op.bytesLess x.Key w.Key with
      | false => rfl
      | true => have := P5 h3 hb; rw [I4] at this; cases this)]
    rw [if_neg]
    intro ⟨x, hx, hk⟩
    have h3 := h1 0 x (Nat.le_refl _) (List.getElem?_eq_some_iff.1 hx).1 hx
    rw [hk, I4] at h3; cases h3
  | succ n =>
    obtain ⟨x, hx⟩ := Go.AV.get_some (show n < l.length by omega)
    have h3 := h2 x qz8 y8
    have htri := T4 x.Key w.Key
    by_cases hk : x.Key = w.Key
    · rw [if_pos (by simp [BR5, hx, hk]), Nat.add_sub_cancel]
      rw [Ao7 (l := l) (p := n) qz8 (fun i y hi hy => by have := AF4 X8 h hi hy hx; unfold wLess at this; rw [hk] at this; exact this) (fun y hy => by rw [hx] at hy; injection hy with hy; subst hy; rw [hk, I4])]
      rw [if_pos ⟨x, hx, hk⟩]
    · have hlt : Op.bytesLess x.Key w.Key = true := by rw [h3] at htri; cases hb : Op.bytesLess x.Key w.Key with | true => rfl | false => (rw [hb] at htri; simp at htri; exact absurd htri.symm hk)
      rw [if_neg (by simp [BR5, hx, hk])]
      have hno : ∀ y, l[n + 1]? = some y → Op.bytesLess w.Key y.Key = true := fun y hy => h1 (n + 1) y (Nat.le_refl _) (List.getElem?_eq_some_iff.1 hy).1 hy
      rw [Ao7 (l := l) (p := n + 1) hle (fun i y hi hy => by
        rcases Nat.lt_or_ge i n with h4 | h4
        · have := AF4 X8 h h4 hy hx
          exact P5 this hlt
        · have : i = n := by omega
          subst this
          rw [hx] at hy; injection hy with hy; subst hy; exact hlt) (fun y hy => by
        cases hb : Op.bytesLess y.Key w.Key with
        | false => rfl
        | true => have := P5 (hno y hy) hb; rw [I4] at this; cases this)]
      rw [if_neg]
      intro ⟨y, hy, hyk⟩
      have := hno y hy
      rw [hyk, I4] at this; cases this
theorem m7 {α : Type} {p : α → α → Bool} (tr : ∀ a b c, p a b = true → p b c = true → p a c = true) : ∀ {l : List α}, adj p l = true ↔ l.Pairwise fun a b => p a b = true
  | [] => by simp [adj]
  | [x] => by simp [adj]
  | x :: y :: l => by
    rw [adj, Bool.and_eq_true, m7 tr, List.pairwise_cons (a := x)]
    constructor
    · intro ⟨h1, h2⟩
      refine ⟨fun z hz => ?_, h2⟩
      rcases List.mem_cons.1 hz with rfl | hz
      · exact h1
      · exact tr _ _ _ h1 (List.rel_of_pairwise_cons h2 hz)
    · intro ⟨h1, h2⟩
      exact ⟨h1 y List.mem_cons_self, h2⟩
theorem BF7 {l : List A9} (q : A9 → Bool) (h : adj wLess l = true) : adj wLess (l.filter q) = true :=
  (m7 X8).2 (((m7 X8).1 h).filter q)
theorem AV1 {w x : A9} : ∀ {l : List A9}, x ∈ ins l w → x = w ∨ x ∈ l
  | [], h => by simp [ins] at h; exact .inl h
  | y :: l, h => by
    unfold ins at h
    split at h
    · rcases List.mem_cons.1 h with rfl | h
      · exact .inr List.mem_cons_self
      · exact (AV1 h).imp id (List.mem_cons_of_mem _)
    · split at h
      · rcases List.mem_cons.1 h with rfl | h
        · exact .inl rfl
        · exact .inr (List.mem_cons_of_mem _ h)
      · rcases List.mem_cons.1 h with rfl | h
        · exact .inl rfl
        · exact .inr h
theorem AB7 {w : A9} : ∀ {l : List A9}, adj wLess l = true → adj wLess (ins l w) = true
  | [], _ => rfl
  | y :: l, h => by
    have hp := (m7 X8).1 h
    refine (m7 X8).2 ?_
    unfold ins
    split
    · rename_i hlt
      have ih := (m7 X8).1 (AB7 (w := w) (Ai7 h))
      refine List.pairwise_cons.2 ⟨fun z hz => ?_, ih⟩
      rcases AV1 hz with rfl | hz
      · exact hlt
      · exact List.rel_of_pairwise_cons hp hz
    · rename_i hnlt
      split
      · rename_i hk
        refine List.pairwise_cons.2 ⟨fun z hz => ?_, (List.pairwise_cons.1 hp).2⟩
        have := List.rel_of_pairwise_cons hp hz
        unfold wLess at this ⊢
        rw [← hk]; exact this
      · rename_i hk
        have hgt : Op.bytesLess w.Key y.Key = true := by
          have := T4 y.Key w.Key
          cases hb : Op.bytesLess w.Key y.Key with
          | true => rfl
          | false => rw [hb] at this; simp at hnlt; rw [hnlt] at this; simp at this; exact absurd this.symm hk
        refine List.pairwise_cons.2 ⟨fun z hz => ?_, hp⟩
        rcases List.mem_cons.1 hz with rfl | hz
        · exact hgt
        · exact P5 hgt (List.rel_of_pairwise_cons hp hz)
theorem Ae1 {w : A9} : ∀ {l : List A9}, l.length ≤ (ins l w).length ∧ (ins l w).length ≤ l.length + 1
  | [] => by simp [ins]
  | y :: l => by
    unfold ins
    have ih := Ae1 (w := w) (l := l)
    split
    · simp; omega
    · split <;> simp
theorem Av5 (a b : Str) : (!(Op.bytesLess a b || a == b)) = Op.bytesLess b a := by
  have h := T4 a b
  cases h1 : Op.bytesLess a b
  · cases h2 : Op.bytesLess b a
    · rw [h1, h2] at h; simp at h; simp [h]
    · simp; intro hc; subst hc; rw [I4] at h2; cases h2
  · simp; cases h2 : Op.bytesLess b a with
    | false => rfl
    | true => have := P5 h1 h2; rw [I4] at this; cases this
theorem Bx9 {l : List A9} {k : Str} {n : Nat} {x : A9} (hx : l[n]? = some x) (h : Op.bytesLess k x.Key = true) : scanW l k (n + 1) = scanW l k n := by
  conv => lhs; unfold scanW
  simp only [hx, h, if_true]
theorem By0 {l : List A9} {k : Str} {n : Nat} {x : A9} (hx : l[n]? = some x) (h : Op.bytesLess k x.Key = false) : scanW l k (n + 1) = n + 1 := by
  unfold scanW
  simp only [hx, h, Bool.false_eq_true, if_false]
def insL (l ws : List A9) : List A9 := ws.foldl ins l
theorem BB7 : ∀ {ws l : List A9}, adj wLess l = true → adj wLess (insL l ws) = true
  | [], _, h => h
  | w :: ws, l, h => BB7 (ws := ws) (AB7 h)
theorem BB8 {x : A9} : ∀ {ws l : List A9}, x ∈ insL l ws → x ∈ ws ∨ x ∈ l
  | [], _, h => .inr h
  | w :: ws, l, h => by
    rcases BB8 (ws := ws) (l := ins l w) h with h | h
    · exact .inl (List.mem_cons_of_mem _ h)
    · rcases AV1 h with rfl | h
      · exact .inl List.mem_cons_self
      · exact .inr h
theorem BB9 : ∀ {ws l : List A9}, (insL l ws).length ≤ l.length + ws.length
  | [], l => by simp [insL]
  | w :: ws, l => by
    have h1 := BB9 (ws := ws) (l := ins l w)
    have h2 := (Ae1 (w := w) (l := l)).2
    show (insL (ins l w) ws).length ≤ _
    simp only [H4]; omega
def putL (l ws : List A9) : List A9 := ws.foldl putW l
def putLS (l ws : List A9) : List A9 := ws.foldl putWS l
theorem Bg0 : ∀ {ws l : List A9}, adj wLess l = true → putL l ws = insL l ws
  | [], _, _ => rfl
  | w :: ws, l, h => by
    show putL (putW l w) ws = insL (ins l w) ws
    rw [putW_ins h, Bg0 (AB7 h)]
theorem BT5 : ∀ {ws l : List A9}, adj wLess l = true → putLS l ws = insL l ws
  | [], _, _ => rfl
  | w :: ws, l, h => by
    show putLS (putWS l w) ws = insL (ins l w) ws
    rw [BT4 h, BT5 (AB7 h)]
theorem CF9 (l : List A9) (w : A9) : (putWS l w).length ≤ l.length + 1 := by
  unfold putWS; split
  · simp
  · simp; omega
theorem putW_len (l : List A9) (w : A9) : (putW l w).length ≤ l.length + 1 := by
  unfold putW; split
  · simp
  · simp; omega
theorem Ao8 : ∀ (ws l : List A9), (putLS l ws).length ≤ l.length + ws.length
  | [], l => by simp [putLS]
  | w :: ws, l => by
    have h1 := Ao8 ws (putWS l w)
    have h2 := CF9 l w
    show (putLS (putWS l w) ws).length ≤ _
    simp only [H4]; omega
theorem BC0 : ∀ (ws l : List A9), (putL l ws).length ≤ l.length + ws.length
  | [], l => by simp [putL]
  | w :: ws, l => by
    have h1 := BC0 ws (putW l w)
    have h2 := putW_len l w
    show (putL (putW l w) ws).length ≤ _
    simp only [H4]; omega
theorem CG0 (l ws : List A9) (w : A9) : putL l (ws ++ [w]) = putW (putL l ws) w := by unfold putL; rw [List.foldl_append]; rfl
theorem By1 (l ws : List A9) (w : A9) : putLS l (ws ++ [w]) = putWS (putLS l ws) w := by unfold putLS; rw [List.foldl_append]; rfl
def o5 (l : List A9) : List A9 := l.filter fun w => !w.Gone
def putRows (rows ws : List A9) : List A9 × Bool := if (24 : Int) < ((o5 (putL rows ws)).length : Int) then ([], false) else (o5 (putL rows ws), true)
def AX9 (a b : Int) : Int := if a < b then a else b
theorem Ao9 (a b : Str) : Op.bytesLess a b = true ∨ a = b ∨ Op.bytesLess b a = true := by
  have h := T4 a b
  cases h1 : Op.bytesLess a b
  · cases h2 : Op.bytesLess b a
    · rw [h1, h2] at h; simp at h; exact .inr (.inl h.symm)
    · exact .inr (.inr rfl)
  · exact .inl rfl
end Go.M
namespace Go.M
open Go.AV
def n1 (l : List Str) : Prop := l.Pairwise fun a b => Op.bytesLess a b = true
theorem Bg1 : ∀ {a b : List Str}, n1 a → n1 b → (∀ x, x ∈ a ↔ x ∈ b) → a = b
  | [], [], _, _, _ => rfl
  | [], y :: b, _, _, h => by have := (h y).2 List.mem_cons_self; cases this
  | x :: a, [], _, _, h => by have := (h x).1 List.mem_cons_self; cases this
  | x :: a, y :: b, ha, hb, h => by
    obtain ⟨a1, a2⟩ := List.pairwise_cons.1 ha
    obtain ⟨b1, b2⟩ := List.pairwise_cons.1 hb
    have asym : ∀ {u v : Str}, Op.bytesLess u v = true → Op.bytesLess v u = true → False := fun h k => by
      have := P5 h k; rw [I4] at this; cases this
    have e : x = y := by
      rcases List.mem_cons.1 ((h x).1 List.mem_cons_self) with e | e
      · exact e
      · rcases List.mem_cons.1 ((h y).2 List.mem_cons_self) with f | f
        · exact f.symm
        · exact (asym (b1 x e) (a1 y f)).elim
    subst e
    rw [Bg1 a2 b2 fun z => ?_]
    constructor
    · intro hz
      rcases List.mem_cons.1 ((h z).1 (List.mem_cons_of_mem _ hz)) with e | e
      · subst e; have := a1 z hz; rw [I4] at this; cases this
      · exact e
    · intro hz
      rcases List.mem_cons.1 ((h z).2 (List.mem_cons_of_mem _ hz)) with e | e
      · subst e; have := b1 z hz; rw [I4] at this; cases this
      · exact e
def sortS (l : List Str) : List Str := l.mergeSort fun x y => decide (x ≤ y)
theorem le_less (x y : Str) : decide (x ≤ y) = !Op.bytesLess y x := by
  rw [Go.Proofs.bytesLess_eq]
  by_cases h : y < x
  · simp [h, List.not_le.2 h]
  · simp [h, List.not_lt.1 h]
theorem CG1 (l : List Str) (z : Str) : z ∈ sortS l ↔ z ∈ l := (List.mergeSort_perm l _).mem_iff
theorem CG2 (l : List Str) : (sortS l).length = l.length := List.length_mergeSort l
theorem By2 (l : List Str) : (sortS l).Pairwise fun a b => Op.bytesLess b a = false := by
  have h := List.pairwise_mergeSort (le := fun x y : Str => decide (x ≤ y)) (fun a b c h1 h2 => by
    simp only [decide_eq_true_eq] at *; exact List.le_trans h1 h2) (fun a b => by
    simp only [Bool.or_eq_true, decide_eq_true_eq]; exact List.le_total a b) l
  refine h.imp fun {a b} hab => ?_
  rw [le_less] at hab
  simpa using hab
theorem AZ6 {l : List Str} {z : Str} : ∀ {n : Nat}, z ∈ cmpN l n ↔ ∃ i, i < n ∧ l[i]? = some z
  | 0 => by constructor
            · intro h; cases h
            · rintro ⟨i, h, _⟩; omega
  | n + 1 => by
    show z ∈ (if n ≠ 0 ∧ l[n]? = l[n - 1]? then cmpN l n else cmpN l n ++ (l[n]?).toList) ↔ _
    split
    · rename_i h
      rw [AZ6]
      constructor
      · exact fun ⟨i, h1, h2⟩ => ⟨i, by omega, h2⟩
      · intro ⟨i, h1, h2⟩
        by_cases e : i = n
        · subst e; exact ⟨i - 1, by omega, h.2 ▸ h2⟩
        · exact ⟨i, by omega, h2⟩
    · rw [List.mem_append, AZ6, Option.mem_toList]
      constructor
      · rintro (⟨i, h1, h2⟩ | h)
        · exact ⟨i, by omega, h2⟩
        · exact ⟨n, by omega, h⟩
      · intro ⟨i, h1, h2⟩
        by_cases e : i = n
        · subst e; exact .inr h2
        · exact .inl ⟨i, by omega, h2⟩
theorem CG3 (l : List Str) (z : Str) : z ∈ cmpL l ↔ z ∈ l := by
  unfold cmpL
  rw [AZ6]
  constructor
  · exact fun ⟨i, _, h⟩ => C4 h
  · intro h
    obtain ⟨i, hi⟩ := List.getElem?_of_mem h
    exact ⟨i, (List.getElem?_eq_some_iff.1 hi).1, hi⟩
theorem BC1 {l : List Str} (hs : l.Pairwise fun a b => Op.bytesLess b a = false) {i j : Nat} {x y : Str} (hij : i < j) (hx : l[i]? = some x) (hy : l[j]? = some y) : Op.bytesLess y x = false := by
  obtain ⟨h1, e1⟩ := List.getElem?_eq_some_iff.1 hx
  obtain ⟨h2, e2⟩ := List.getElem?_eq_some_iff.1 hy
  have := List.pairwise_iff_getElem.1 hs i j h1 h2 hij
  rw [e1, e2] at this; exact this
theorem BT6 {l : List Str} (hs : l.Pairwise fun a b => Op.bytesLess b a = false) : ∀ {n : Nat}, n ≤ l.length → n1 (cmpN l n)
  | 0, _ => List.Pairwise.nil
  | n + 1, hn => by
    have ih := BT6 hs (n := n) qz8
    show n1 (if n ≠ 0 ∧ l[n]? = l[n - 1]? then cmpN l n else cmpN l n ++ (l[n]?).toList)
    split
    · exact ih
    · rename_i h
      obtain ⟨x, hx⟩ := get_some (show n < l.length by omega)
      rw [hx]
      refine List.pairwise_append.2 ⟨ih, List.pairwise_singleton _ _, fun z hz w hw => ?_⟩
      simp at hw; subst hw
      obtain ⟨i, hi, hzi⟩ := AZ6.1 hz
      have h1 := BC1 hs hi hzi hx
      rcases Ao9 z w with e | e | e
      · exact e
      · exfalso
        subst e
        apply h
        refine ⟨by omega, ?_⟩
        by_cases f : i = n - 1
        · rw [hx, ← f, hzi]
        · obtain ⟨v, hv⟩ := get_some (show n - 1 < l.length by omega)
          have h3 := BC1 hs (show n - 1 < n by omega) hv hx
          have h4 := BC1 hs (show i < n - 1 by omega) hzi hv
          rw [hx, hv]
          rcases Ao9 z v with g | g | g
          · rw [g] at h3; cases h3
          · rw [g]
          · rw [g] at h4; cases h4
      · rw [h1] at e; cases e
def keysI (l : List Str) : List Str := cmpL (sortS l)
theorem BT7 (l : List Str) : n1 (keysI l) := BT6 (By2 l) (Nat.le_refl _)
theorem AZ7 (l : List Str) (z : Str) : z ∈ keysI l ↔ z ∈ l := by unfold keysI; rw [CG3, CG1]
theorem AZ8 (l : List Str) : (keysI l).length ≤ l.length := by
  have := Bf8 (sortS l) (sortS l).length
  unfold keysI cmpL; rw [CG2] at this ⊢; exact this
def putS : List Str → Str → List Str
  | [], s => [s]
  | y :: l, s => if Op.bytesLess s y = true then s :: y :: l else if y = s then y :: l else y :: putS l s
theorem AW6 {s : Str} : ∀ {l : List Str}, n1 l → n1 (putS l s) ∧ ∀ z, z ∈ putS l s ↔ z ∈ l ∨ z = s
  | [], _ => ⟨by unfold n1 putS; simp, fun z => by simp [putS]⟩
  | y :: l, h => by
    obtain ⟨h1, h2⟩ := List.pairwise_cons.1 h
    unfold putS
    split
    · rename_i hs
      refine ⟨List.pairwise_cons.2 ⟨fun z hz => ?_, h⟩, fun z => ?_⟩
      · rcases List.mem_cons.1 hz with rfl | hz
        · exact hs
        · exact P5 hs (h1 z hz)
      · rw [List.mem_cons, or_comm]
    · rename_i hs
      split
      · rename_i e
        subst e
        refine ⟨h, fun z => ⟨.inl, ?_⟩⟩
        rintro (hz | rfl)
        · exact hz
        · exact List.mem_cons_self
      · rename_i e
        obtain ⟨i1, i2⟩ := AW6 (s := s) h2
        have hys : Op.bytesLess y s = true := by
          rcases Ao9 y s with g | g | g
          · exact g
          · exact absurd g e
          · exact absurd g hs
        refine ⟨List.pairwise_cons.2 ⟨fun z hz => ?_, i1⟩, fun z => ?_⟩
        · rcases (i2 z).1 hz with hz | rfl
          · exact h1 z hz
          · exact hys
        · rw [List.mem_cons, i2, List.mem_cons, or_assoc]
theorem Ai8 (s : Str) : ∀ l : List Str, (putS l s).length ≤ l.length + 1
  | [] => Nat.le_refl _
  | y :: l => by
    have := Ai8 s l
    unfold putS
    split
    · exact Nat.le_refl _
    · split
      · exact Nat.le_succ _
      · rw [H4, H4]; omega
def putAllS (l : List Str) (o : List Str) : List Str := l.foldl putS o
theorem AB8 : ∀ {l o : List Str}, n1 o → n1 (putAllS l o) ∧ ∀ z, z ∈ putAllS l o ↔ z ∈ o ∨ z ∈ l
  | [], o, h => ⟨h, fun z => by simp [putAllS]⟩
  | s :: l, o, h => by
    obtain ⟨h1, h2⟩ := AW6 (s := s) h
    obtain ⟨i1, i2⟩ := AB8 (l := l) h1
    refine ⟨i1, fun z => ?_⟩
    show z ∈ putAllS l (putS o s) ↔ _
    rw [i2, h2, List.mem_cons, or_assoc]
theorem BT8 (l : List Str) : keysI l = putAllS l [] := by
  obtain ⟨h1, h2⟩ := AB8 (l := l) (o := []) List.Pairwise.nil
  exact Bg1 (BT7 l) h1 fun z => by rw [AZ7, h2]; simp
theorem BT9 {s : Str} : ∀ {l : List Str} {k : Nat}, n1 l → k ≤ l.length → (∀ i y, k ≤ i → l[i]? = some y → Op.bytesLess s y = true) → (∀ y, 0 < k → l[k - 1]? = some y → Op.bytesLess s y = false ∧ y ≠ s) → putS l s = l.take k ++ s :: l.drop k
  | [], k, _, hk, _, _ => by have : k = 0 := by simpa using hk
                             subst this; rfl
  | y :: l, 0, _, _, h, _ => by
    unfold putS
    rw [if_pos (h 0 y (Nat.le_refl _) rfl)]; rfl
  | y :: l, k + 1, hs, hk, h, g => by
    obtain ⟨h1, h2⟩ := List.pairwise_cons.1 hs
    have hy : Op.bytesLess s y = false ∧ y ≠ s := by
      cases k with
      | zero => exact g y qz8 rfl
      | succ k =>
        obtain ⟨z, hz⟩ := get_some (show k < l.length by simp at hk; omega)
        have hgz := g z qz8 (by simpa using hz)
        have hyz := h1 z (C4 hz)
        refine ⟨?_, fun e => ?_⟩
        · cases e : Op.bytesLess s y with
          | false => rfl
          | true => have := P5 e hyz; rw [hgz.1] at this; cases this
        · subst e; rw [hyz] at hgz; cases hgz.1
    unfold putS
    rw [if_neg (by rw [hy.1]; decide), if_neg hy.2, BT9 h2 (by simpa using hk) (fun i z hi hz => h (i + 1) z qz8 (by simpa using hz)) (fun z hz hz2 => g z qz8 (by
      cases k with
      | zero => omega
      | succ k => simpa using hz2))]
    rfl
theorem BF8 {s : Str} : ∀ {l : List Str} {k : Nat}, n1 l → l[k]? = some s → putS l s = l
  | y :: l, 0, hs, h => by
    simp at h; subst h
    unfold putS
    rw [if_neg (by rw [I4]; decide), if_pos rfl]
  | y :: l, k + 1, hs, h => by
    obtain ⟨h1, h2⟩ := List.pairwise_cons.1 hs
    have h3 : l[k]? = some s := by simpa using h
    have hy := h1 s (C4 h3)
    unfold putS
    rw [if_neg (fun e => by have := P5 e hy; rw [I4] at this; cases this), if_neg (fun e => by rw [e, I4] at hy; cases hy), BF8 h2 h3]
  | [], k, hs, h => by simp at h
theorem AM4 (l o : List Str) (s : Str) : putAllS (l ++ [s]) o = putS (putAllS l o) s := by
  unfold putAllS; rw [List.foldl_append]; rfl
theorem AH2 : ∀ (l o : List Str), (putAllS l o).length ≤ o.length + l.length
  | [], o => Nat.le_refl _
  | s :: l, o => by
    have h1 := AH2 l (putS o s)
    have h2 := Ai8 s o
    show (putAllS l (putS o s)).length ≤ _
    rw [H4]; omega
def isTrue (t : Int) : Bool := within t 0 100000
def verGood (v : T9) : Bool := w4 v.Time && isStored v.Val v.Gone
def AG2 (a b : T9) : Bool := decide (a.Time < b.Time)
def At0 (c : C5) : Bool := (c.Vers.all verGood && adj AG2 c.Vers) && within c.Vers.length 1 16
def i9 (l : List C5) : List Str := l.map C5.Key
def goodCells (l : List C5) : Bool := l.all At0 && (decide ((l.length : Int) ≤ 24) && areRising (i9 l))
def AA5 (k : Str) (v : T9) : Bool := within v.Time 1 100000 && l3Write k v.Val v.Gone
def l3Cell (c : C5) : Bool := (c.Vers.all (AA5 c.Key) && adj AG2 c.Vers) && (l3Key c.Key && within c.Vers.length 1 16)
def cLess (a b : C5) : Bool := Op.bytesLess a.Key b.Key
def l3Good (l : List C5) : Bool := (l.all l3Cell && adj cLess l) && decide ((l.length : Int) ≤ 24)
theorem BO4 (c : C5) : (At0 c && goodKey c.Key) = l3Cell c := by
  unfold At0 l3Cell
  rw [z6, Bool.eq_iff_iff]
  simp only [Bool.and_eq_true, List.all_eq_true]
  have key : ∀ v : T9, l3Key c.Key = true → (verGood v = true ↔ AA5 c.Key v = true) := fun v hk => by
    unfold verGood AA5 w4 l3Write
    rw [Ac3, hk, Bool.true_and]
  constructor
  · rintro ⟨⟨⟨h1, h2⟩, h3⟩, h4⟩
    exact ⟨⟨fun v hv => (key v h4).1 (h1 v hv), h2⟩, h4, h3⟩
  · rintro ⟨⟨h1, h2⟩, h4, h3⟩
    exact ⟨⟨⟨fun v hv => (key v h4).2 (h1 v hv), h2⟩, h3⟩, h4⟩
theorem g7 (l : List C5) : goodCells l = l3Good l := by
  unfold goodCells l3Good areRising i9
  rw [Av3, Bool.eq_iff_iff]
  simp only [Bool.and_eq_true, List.all_eq_true, List.mem_map, forall_exists_index, and_imp, forall_apply_eq_imp_iff₂]
  constructor
  · rintro ⟨h1, h2, h3, h4⟩
    exact ⟨⟨fun c hc => by rw [← BO4, h1 c hc, h3 c hc]; rfl, h4⟩, h2⟩
  · rintro ⟨⟨h1, h4⟩, h2⟩
    have h5 : ∀ c ∈ l, At0 c = true ∧ goodKey c.Key = true := fun c hc => by
      have := h1 c hc
      rw [← BO4] at this
      simpa using this
    exact ⟨fun c hc => (h5 c hc).1, h2, fun c hc => (h5 c hc).2, h4⟩
theorem g8 {l : List C5} (h : goodCells l = true) : l.length ≤ 24 ∧ adj cLess l = true ∧ ∀ c ∈ l, goodKey c.Key = true ∧ 1 ≤ c.Vers.length ∧ c.Vers.length ≤ 16 ∧ adj AG2 c.Vers = true ∧ ∀ v ∈ c.Vers, verGood v = true := by
  have h0 := h
  rw [g7] at h
  unfold l3Good at h
  simp only [Bool.and_eq_true, List.all_eq_true, decide_eq_true_eq] at h
  refine ⟨by omega, h.1.2, fun c hc => ?_⟩
  have hcell := h.1.1 c hc
  rw [← BO4] at hcell
  simp only [Bool.and_eq_true] at hcell
  obtain ⟨h1, h2⟩ := hcell
  unfold At0 at h1
  simp only [Bool.and_eq_true, List.all_eq_true] at h1
  have h3 := h1.2
  unfold within at h3
  simp at h3
  exact ⟨h2, by omega, by omega, h1.1.2, h1.1.1⟩
theorem AH3 (a b c : C5) (h : cLess a b = true) (k : cLess b c = true) : cLess a c = true := P5 h k
def findC (l : List C5) (k : Str) : Option C5 := l.find? fun c => c.Key == k
theorem CG4 {l : List C5} (ha : adj cLess l = true) {i j : Nat} {a b : C5} (hi : l[i]? = some a) (hj : l[j]? = some b) (hk : a.Key = b.Key) : i = j := by
  rcases Nat.lt_trichotomy i j with hlt | heq | hgt
  · have h9 := AF4 AH3 ha hlt hi hj
    unfold cLess at h9; rw [hk, I4] at h9; cases h9
  · exact heq
  · have h9 := AF4 AH3 ha hgt hj hi
    unfold cLess at h9; rw [hk, I4] at h9; cases h9
theorem findC_at {l : List C5} (ha : adj cLess l = true) {i : Nat} {c : C5} (hc : l[i]? = some c) : findC l c.Key = some c := by
  unfold findC
  cases hf : l.find? (fun x => x.Key == c.Key) with
  | none => have := List.find?_eq_none.1 hf c (C4 hc); simp at this
  | some d =>
    have h1 := List.find?_some hf
    obtain ⟨j, hj⟩ := List.getElem?_of_mem (List.mem_of_find?_eq_some hf)
    have := CG4 ha hj hc (by simpa using h1)
    subst this
    rw [hc] at hj; exact hj.symm
def atC (l : List C5) (k : Str) : Int := match l.findIdx? (fun c => c.Key == k) with
  | some i => (i : Int)
  | none => -1
theorem atC_some {l : List C5} {k : Str} {i : Nat} {x : C5} (hx : l[i]? = some x) (hk : x.Key = k) (h : ∀ j y, j < i → l[j]? = some y → y.Key ≠ k) : atC l k = (i : Int) := by
  have hl := (List.getElem?_eq_some_iff.1 hx)
  have : l.findIdx? (fun c => c.Key == k) = some i := by
    rw [List.findIdx?_eq_some_iff_getElem]
    refine ⟨hl.1, by rw [hl.2]; simp [hk], fun j hj => ?_⟩
    have hl1 := hl.1
    simpa using h j _ hj (List.getElem?_eq_getElem (show j < l.length by omega))
  unfold atC; rw [this]
theorem atC_none {l : List C5} {k : Str} (h : ∀ (j : Nat) (y : C5), l[j]? = some y → y.Key ≠ k) : atC l k = -1 := by
  have : l.findIdx? (fun c => c.Key == k) = none := by
    rw [List.findIdx?_eq_none_iff]
    intro x hx
    obtain ⟨j, hj⟩ := List.getElem?_of_mem hx
    simpa using h j x hj
  unfold atC; rw [this]
theorem BO5 {l : List C5} {k : Str} (h : atC l k < 0) : findC l k = none := by
  unfold atC at h
  cases hf : l.findIdx? (fun c => c.Key == k) with
  | some i => rw [hf] at h; simp at h; omega
  | none =>
    rw [List.findIdx?_eq_none_iff] at hf
    unfold findC
    rw [List.find?_eq_none]
    intro c hc; simp [hf c hc]
theorem BO6 {l : List C5} {k : Str} (h : ¬ atC l k < 0) : ∃ (p : Nat) (c : C5), atC l k = (p : Int) ∧ l[p]? = some c ∧ findC l k = some c := by
  cases hf : l.findIdx? (fun c => c.Key == k) with
  | none => exfalso; unfold atC at h; rw [hf] at h; exact h D3
  | some i =>
    have he : atC l k = (i : Int) := by unfold atC; rw [hf]
    rw [List.findIdx?_eq_some_iff_getElem] at hf
    obtain ⟨h1, h2, h3⟩ := hf
    refine ⟨i, l[i], he, List.getElem?_eq_getElem h1, ?_⟩
    unfold findC
    rw [List.find?_eq_some_iff_getElem]
    exact ⟨h2, i, h1, rfl, fun j hj => by simpa using h3 j hj⟩
def lastV (c : C5) : Int := match c.Vers.getLast? with
  | some v => v.Time
  | none => 0
def lastTime (l : List C5) (k : Str) : Int := match findC l k with
  | some c => lastV c
  | none => 0
def cellVal (c : C5) (t : Int) : Str × Bool := match c.Vers.reverse.find? (fun v => decide (v.Time ≤ t)) with
  | some v => (v.Val, !v.Gone)
  | none => ([], false)
def cellAt (l : List C5) (k : Str) (t : Int) : Str × Bool := match findC l k with
  | some c => cellVal c t
  | none => ([], false)
def Bw2 (l : List C5) (t : Int) : List A9 := l.filterMap fun c => if (cellVal c t).2 = true then some ⟨c.Key, (cellVal c t).1, false⟩ else none
def insC : List C5 → Str → T9 → List C5
  | [], k, v => [⟨k, [v]⟩]
  | c :: l, k, v => if Op.bytesLess c.Key k = true then c :: insC l k v else if c.Key = k then ⟨k, c.Vers ++ [v]⟩ :: l else ⟨k, [v]⟩ :: c :: l
theorem BO7 {k : Str} {v : T9} : ∀ {l : List C5} {p : Nat}, p ≤ l.length → (∀ i x, i < p → l[i]? = some x → Op.bytesLess x.Key k = true) → (∀ x, l[p]? = some x → Op.bytesLess x.Key k = false) →
    (∀ x, l[p]? = some x → x.Key = k → insC l k v = l.set p ⟨k, x.Vers ++ [v]⟩) ∧ ((∀ x, l[p]? = some x → x.Key ≠ k) → insC l k v = l.take p ++ ⟨k, [v]⟩ :: l.drop p)
  | [], p, hp, _, _ => by simp at hp; subst hp; exact ⟨fun x hx => by simp at hx, fun _ => rfl⟩
  | c :: l, 0, _, _, h2 => by
    have h := h2 c rfl
    unfold insC
    rw [h, if_neg D3]
    refine ⟨fun x hx hk => ?_, fun hn => ?_⟩
    · simp at hx; subst hx; rw [if_pos hk]; rfl
    · rw [if_neg (hn c rfl)]; rfl
  | c :: l, p + 1, hp, h1, h2 => by
    have h := h1 0 c qz8 rfl
    obtain ⟨i1, i2⟩ := BO7 (k := k) (v := v) (l := l) (p := p) (by simpa using hp) (fun i y hi hy => h1 (i + 1) y qz8 AQ0) (fun y hy => h2 y AQ0)
    unfold insC
    rw [if_pos h]
    refine ⟨fun x hx hk => ?_, fun hn => ?_⟩
    · rw [i1 x y8 hk]; rfl
    · rw [i2 fun x hx => hn x y8]; rfl
def putC1 (l : List C5) (x : A9) (t : Int) : List C5 := insC l x.Key ⟨t, x.Val, x.Gone⟩
def putAll (l : List C5) : List A9 → Int → Option (List C5)
  | [], _ => some l
  | x :: w, t => if decide (t ≤ lastTime l x.Key) = true then none else putAll (putC1 l x t) w t
def w5 (l : List C5) : Prop := adj cLess l = true ∧ ∀ c ∈ l, 1 ≤ c.Vers.length
theorem AD6 {l : List C5} (h : goodCells l = true) : w5 l := ⟨(g8 h).2.1, fun c hc => ((g8 h).2.2 c hc).2.1⟩
def putP (l : List C5) (w : List A9) (t : Int) : List C5 × Bool := match putAll l w t with
  | none => ([], false)
  | some out => (out, l3Good out)
def C5.ocs (c : C5) (x : Value) : List AV := [AV.str c.Key, AV.is x]
theorem CG5 (d : C5) : ∀ (l : List C5) (k : Str) (v : T9), ∃ c r, insC (d :: l) k v = c :: r ∧ (c.Key = d.Key ∨ c.Key = k) := fun l k v => by
  unfold insC
  split
  · exact ⟨_, _, rfl, Or.inl rfl⟩
  · split
    · exact ⟨_, _, rfl, Or.inr rfl⟩
    · exact ⟨_, _, rfl, Or.inr rfl⟩
theorem AK6 {α : Type} {p : α → α → Bool} {x y : α} {l : List α} : adj p (x :: y :: l) = (p x y && adj p (y :: l)) := rfl
theorem BC2 (k : Str) (v : T9) : ∀ {l : List C5}, adj cLess l = true → adj cLess (insC l k v) = true
  | [], _ => rfl
  | [c], _ => by
    unfold insC
    by_cases h1 : Op.bytesLess c.Key k = true
    · rw [if_pos h1]; unfold insC; simpa [adj, cLess] using h1
    · rw [if_neg h1]
      by_cases h2 : c.Key = k
      · rw [if_pos h2]; rfl
      · rw [if_neg h2]
        have := T4 k c.Key
        simp [adj, cLess]
        simp_all
  | c :: d :: l, h => by
    rw [AK6, Bool.and_eq_true] at h
    have ih := BC2 k v (l := d :: l) h.2
    unfold insC
    by_cases h1 : Op.bytesLess c.Key k = true
    · rw [if_pos h1]
      obtain ⟨e, r, he, hk⟩ := CG5 d l k v
      rw [he] at ih ⊢
      rw [AK6, ih, Bool.and_true]
      have h3 := h.1
      unfold cLess at *
      rcases hk with hk | hk
      · rw [hk]; exact h3
      · rw [hk]; exact h1
    · rw [if_neg h1]
      by_cases h2 : c.Key = k
      · rw [if_pos h2, AK6, h.2, Bool.and_true]
        have h3 := h.1
        unfold cLess at *
        rw [← h2]; exact h3
      · rw [if_neg h2, AK6, AK6, h.1, h.2, Bool.and_true, Bool.and_true]
        have := T4 k c.Key
        unfold cLess
        simp_all
theorem BU0 (k : Str) (v : T9) : ∀ {l : List C5}, (∀ c ∈ l, 1 ≤ c.Vers.length) → ∀ c ∈ insC l k v, 1 ≤ c.Vers.length
  | [], _, c, hc => by unfold insC at hc; simp at hc; subst hc; simp
  | d :: l, h, c, hc => by
    have hd := h d List.mem_cons_self
    have hl := fun c hc => h c (List.mem_cons_of_mem _ hc)
    unfold insC at hc
    split at hc
    · rcases List.mem_cons.1 hc with e | e
      · subst e; exact hd
      · exact BU0 k v hl c e
    · split at hc
      · rcases List.mem_cons.1 hc with e | e
        · subst e; simp
        · exact hl c e
      · rcases List.mem_cons.1 hc with e | e
        · subst e; simp
        · exact h c e
theorem AH4 {l : List C5} (h : w5 l) (k : Str) (v : T9) : w5 (insC l k v) := ⟨BC2 k v h.1, BU0 k v h.2⟩
theorem P7 {α : Type} {f : α → Nat} {x : α} {l : List α} : sizeL f (x :: l) = 1 + f x + sizeL f l := by unfold sizeL; simp; omega
theorem AW7 {α : Type} {f : α → Nat} {l r : List α} : sizeL f (l ++ r) = sizeL f l + sizeL f r := by unfold sizeL; simp; omega
theorem BU1 (k : Str) (v : T9) : ∀ {l : List C5}, sizeL C5.size (insC l k v) ≤ sizeL C5.size l + (2 + k.length + v.Val.length)
  | [] => by unfold insC; simp only [P7, C5.size, T9.size]; unfold sizeL; simp; omega
  | d :: l => by
    have ih := BU1 k v (l := l)
    unfold insC
    split
    · simp only [P7]; omega
    · split
      · rename_i h; subst h
        simp only [P7, C5.size, AW7, T9.size]; unfold sizeL; simp; omega
      · simp only [P7, C5.size, T9.size]; unfold sizeL; simp; omega
theorem AM5 (l : List C5) (x : A9) (t : Int) : sizeL C5.size (putC1 l x t) ≤ sizeL C5.size l + (2 + x.size) := by
  unfold putC1 A9.size
  have := BU1 x.Key ⟨t, x.Val, x.Gone⟩ (l := l)
  simp only at this; omega
theorem BZ4 {l : List C5} {k : Str} (h : ∀ c ∈ l, c.Key ≠ k) : lastTime l k = 0 := by
  have : findC l k = none := by
    unfold findC; rw [List.find?_eq_none]; intro c hc; simpa using h c hc
  unfold lastTime; rw [this]
theorem scan_has {l : List C5} {k : Str} {q : Nat} {c : C5} (ha : adj cLess l = true) (hc : l[q]? = some c) (hk : c.Key = k) (v : T9) : insC l k v = l.set q ⟨k, c.Vers ++ [v]⟩ := by
  have hq := (List.getElem?_eq_some_iff.1 hc).1
  refine (BO7 (k := k) (v := v) (l := l) (p := q) qz8 (fun i x hi hx => ?_) (fun x hx => ?_)).1 c hc hk
  · have := AF4 AH3 ha hi hx hc
    unfold cLess at this; rw [hk] at this; exact this
  · rw [hc] at hx; injection hx with hx; subst hx; rw [hk]; exact I4 _
theorem scan_new {l : List C5} {k : Str} {q : Nat} (ha : adj cLess l = true) (hq : q ≤ l.length) (h1 : ∀ j x, q ≤ j → l[j]? = some x → Op.bytesLess k x.Key = true) (h2 : ∀ x, 0 < q → l[q - 1]? = some x → Op.bytesLess x.Key k = true) (v : T9) : (insC l k v = l.take q ++ ⟨k, [v]⟩ :: l.drop q) ∧ lastTime l k = 0 := by
  have hlo : ∀ i x, i < q → l[i]? = some x → Op.bytesLess x.Key k = true := fun i x hi hx => by
    obtain ⟨y, hy⟩ := Go.AV.get_some (show q - 1 < l.length by omega)
    have h3 := h2 y qz8 hy
    rcases Nat.lt_or_ge i (q - 1) with hlt | hge
    · have := AF4 AH3 ha hlt hx hy
      exact P5 this h3
    · have : i = q - 1 := by omega
      subst this; rw [hx] at hy; injection hy with hy; subst hy; exact h3
  have hhi : ∀ x, l[q]? = some x → Op.bytesLess x.Key k = false := fun x hx => by
    have := h1 q x (Nat.le_refl _) hx
    have h3 := T4 x.Key k
    rw [this] at h3; simpa using h3
  refine ⟨(BO7 (k := k) (v := v) hq hlo hhi).2 fun x hx hk => ?_, BZ4 fun c hc hk => ?_⟩
  · have := h1 q x (Nat.le_refl _) hx
    rw [hk, I4] at this; cases this
  · obtain ⟨i, hi⟩ := List.getElem?_of_mem hc
    rcases Nat.lt_or_ge i q with hlt | hge
    · have := hlo i c hlt hi
      rw [hk, I4] at this; cases this
    · have := h1 i c hge hi
      rw [hk, I4] at this; cases this
def zV : T9 := ⟨0, [], false⟩
def verAt (l : List T9) (t : Int) : Option T9 := l.reverse.find? fun v => decide (v.Time ≤ t)
theorem By3 {l : List T9} {i : Nat} {x : T9} {t : Int} (hx : l[i]? = some x) : verAt (l.take (i + 1)) t = if x.Time ≤ t then some x else verAt (l.take i) t := by
  unfold verAt
  rw [List.take_add_one, hx, Option.toList_some, List.reverse_append]
  show List.find? _ (x :: (l.take i).reverse) = _
  rw [List.find?_cons]
  by_cases h : x.Time ≤ t
  · rw [if_pos h, decide_eq_true h]
  · rw [if_neg h, decide_eq_false h]
theorem BZ5 (c : C5) (t : Int) : cellVal c t = (((verAt c.Vers t).getD zV).Val, (verAt c.Vers t).isSome && !((verAt c.Vers t).getD zV).Gone) := by
  unfold cellVal verAt
  cases c.Vers.reverse.find? (fun v => decide (v.Time ≤ t)) <;> rfl
theorem Bo0 {l : List C5} {k : Str} {t : Int} (h : findC l k = none) : cellAt l k t = ([], false) := by unfold cellAt; rw [h]
theorem Bo1 {l : List C5} {k : Str} {t : Int} {c : C5} (h : findC l k = some c) : cellAt l k t = cellVal c t := by unfold cellAt; rw [h]
def L1.ocs (c : L1) (x : Value × Value) : List AV := [AV.int c.Kind, AV.int c.Txn, AV.int c.Time, AV.int c.Lead, AV.is x.1, AV.is x.2, AV.bool c.Yes]
def j3.ocs (c : j3) (x : Value × Value) : List AV := [AV.int c.Ver, AV.is x.1, AV.is x.2]
def TMove.ocs (c : TMove) (x : Value × Value) : List AV := [AV.str c.Low, AV.str c.High, AV.int c.Phase, AV.is x.1, AV.is x.2, AV.str c.Last, AV.bool c.Over]
theorem c4 {α : Type} {f : α → Nat} {c : Nat} : ∀ {l : List α}, (∀ x ∈ l, f x ≤ c) → sizeL f l ≤ l.length * (c + 1)
  | [], _ => by simp [sizeL]
  | x :: l, h => by
    rw [P7]
    have h1 := h x List.mem_cons_self
    have h2 := c4 (l := l) fun y hy => h y (List.mem_cons_of_mem _ hy)
    rw [H4, Nat.add_mul]; omega
theorem Bg2 {s : Str} (h : goodKey s = true) : s.length ≤ 12 := by
  unfold goodKey within at h
  simp only [Bool.and_eq_true, decide_eq_true_eq] at h
  omega
theorem By4 {s : Str} {g : Bool} (h : isStored s g = true) : s.length ≤ 24 := by
  unfold isStored goodVal at h
  simp only [Bool.and_eq_true, decide_eq_true_eq] at h
  omega
theorem Ap0 {l : List C5} (h : goodCells l = true) : sizeL C5.size l ≤ 9912 := by
  obtain ⟨h1, _, h3⟩ := g8 h
  have : ∀ c ∈ l, c.size ≤ 412 := fun c hc => by
    obtain ⟨k1, k2, k3, _, k5⟩ := h3 c hc
    have e1 := Bg2 k1
    have e2 := c4 (f := T9.size) (c := 24) (l := c.Vers) fun v hv => by
      have := k5 v hv
      unfold verGood at this
      simp only [Bool.and_eq_true] at this
      exact By4 this.2
    unfold C5.size; omega
  have h4 := c4 this
  omega
theorem Ap1 {α : Type} {p : α → α → Bool} (tr : ∀ a b c, p a b = true → p b c = true → p a c = true) : ∀ {l : List α}, adj p l = true ↔ l.Pairwise fun a b => p a b = true
  | [] => by simp [adj]
  | [x] => by simp [adj]
  | x :: y :: l => by
    constructor
    · intro h
      refine List.pairwise_cons.2 ⟨Av4 tr h, ?_⟩
      exact (Ap1 tr).1 (Ai7 h)
    · intro h
      obtain ⟨h1, h2⟩ := List.pairwise_cons.1 h
      rw [AK6, h1 y List.mem_cons_self, (Ap1 tr).2 h2]; rfl
def AS6 (l : List C5) (k : Str) : List T9 := match findC l k with
  | some c => c.Vers
  | none => []
theorem d6 (c : C5) (l : List C5) (k : Str) : findC (c :: l) k = if c.Key = k then some c else findC l k := by
  unfold findC
  rw [List.find?_cons]
  by_cases h : c.Key = k
  · rw [if_pos h, beq_iff_eq.2 h]
  · rw [if_neg h, beq_eq_false_iff_ne.2 h]
theorem findC_gt {l : List C5} {k : Str} (h : ∀ c ∈ l, Op.bytesLess k c.Key = true) : findC l k = none := by
  unfold findC
  rw [List.find?_eq_none]
  intro c hc he
  have := h c hc
  simp only [beq_iff_eq] at he
  rw [he, I4] at this; cases this
theorem Bg3 {k : Str} {v : T9} : ∀ {l : List C5}, adj cLess l = true → findC (insC l k v) k = some ⟨k, AS6 l k ++ [v]⟩
  | [], _ => by unfold insC; rw [d6, if_pos rfl]; rfl
  | c :: l, ha => by
    have hal := Ai7 ha
    unfold insC
    by_cases h1 : Op.bytesLess c.Key k = true
    · have hne : c.Key ≠ k := fun e => by rw [e, I4] at h1; cases h1
      rw [if_pos h1, d6, if_neg hne, Bg3 hal]
      unfold AS6; rw [d6, if_neg hne]
    · rw [if_neg h1]
      by_cases h2 : c.Key = k
      · rw [if_pos h2, d6, if_pos rfl]
        unfold AS6; rw [d6, if_pos h2]
      · rw [if_neg h2, d6, if_pos rfl]
        have hk : Op.bytesLess k c.Key = true := by have := T4 k c.Key; simp_all
        have hn : findC (c :: l) k = none := findC_gt fun d hd => by
          rcases List.mem_cons.1 hd with e | e
          · subst e; exact hk
          · exact P5 hk (Av4 AH3 ha d e)
        unfold AS6; rw [hn]; rfl
theorem AO6 {k k' : Str} {v : T9} (hk : k' ≠ k) : ∀ {l : List C5}, findC (insC l k v) k' = findC l k'
  | [] => by unfold insC; rw [d6, if_neg (fun e => hk e.symm)]
  | c :: l => by
    unfold insC
    split
    · rw [d6, d6, AO6 hk]
    · split
      · rename_i h2
        rw [d6, d6, if_neg (fun e => hk e.symm), if_neg (fun e => hk (e.symm.trans h2))]
      · rw [d6, if_neg (fun e => hk e.symm)]
theorem Ai9 {t : Int} : ∀ {w : List A9} {l out : List C5}, (w.map A9.Key).Nodup → adj cLess l = true → putAll l w t = some out →
    (∀ x ∈ w, findC out x.Key = some ⟨x.Key, AS6 l x.Key ++ [⟨t, x.Val, x.Gone⟩]⟩) ∧ ∀ k, k ∉ w.map A9.Key → findC out k = findC l k
  | [], l, out, _, _, h => by simp [putAll] at h; subst h; simp
  | y :: w, l, out, hn, ha, h => by
    unfold putAll at h
    split at h
    · cases h
    · rw [List.map_cons, List.nodup_cons] at hn
      obtain ⟨i1, i2⟩ := Ai9 hn.2 (BC2 y.Key ⟨t, y.Val, y.Gone⟩ ha) h
      refine ⟨fun x hx => ?_, fun k hk => ?_⟩
      · rcases List.mem_cons.1 hx with e | e
        · subst e
          rw [i2 _ hn.1]; exact Bg3 ha
        · rw [i1 x e]
          have hne : x.Key ≠ y.Key := fun e2 => hn.1 (e2 ▸ List.mem_map_of_mem e)
          have : AS6 (putC1 l y t) x.Key = AS6 l x.Key := by
            unfold AS6 putC1; rw [AO6 hne]
          unfold putC1 at this
          rw [this]
      · simp only [List.map_cons, List.mem_cons, not_or] at hk
        rw [i2 k hk.2]; exact AO6 hk.1
theorem Bg4 {w : List A9} (h : goodWrites w = true) : (w.map A9.Key).Nodup := by
  unfold goodWrites areRising O8 at h
  simp only [Bool.and_eq_true] at h
  have ha := h.1.2.2
  rw [List.Nodup]
  refine ((Ap1 (p := fun a b => Op.bytesLess a b) (fun a b c h k => P5 h k)).1 ha).imp fun {a b} hab e => ?_
  rw [e, I4] at hab; cases hab
end Go.M
