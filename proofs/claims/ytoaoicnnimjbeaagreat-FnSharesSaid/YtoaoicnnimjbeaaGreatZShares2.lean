/- Texts of the claim, part 2. -/
import Derived.Laws.BytesArg
import Derived.Laws.IdiomStrings
import Derived.Lib.AppendZerosOnto
import Derived.Lib.Overlaps
import Derived.Sort.Walk0
import Derived.Test.YtoaoicnnimjbeaaGreatRows
import Derived.Test.YtoaoicnnimjbeaaGreatZShares1

set_option linter.defProp false
def Q3 := @Go.Proofs.Tryz.underlying9
def D1 := @Go.Proofs.Tryz.underlying30
def E5 := @Go.Proofs.Tryz.sizeOf79
def P8 := @Go.Proofs.Tryz.isAgg79
def E4 := @Go.Proofs.Tryz.underlying50
def D5 := @Go.Proofs.Tryz.sizeOf130
def K3 := @Go.Proofs.Tryz.isAgg130
def J2 := @Go.Proofs.Tryz.underlying40
def C5 := @Go.Proofs.Tryz.sizeOf53
def F0 := @Go.Proofs.Tryz.isAgg53
def I0 := @Go.Proofs.Tryz.underlying41
def H4 := @Go.Proofs.Tryz.sizeOf32
def Q4 := @Go.Proofs.Tryz.isAgg32
def W6 := @Go.Proofs.Tryz.underlying3
def F2 := @Go.Proofs.Tryz.underlying49
def G5 := @Go.Proofs.Tryz.sizeOf115
def U8 := @Go.Proofs.Tryz.isAgg115
def C9 := @Go.Proofs.Tryz.underlying24
def E3 := @Go.Proofs.Tryz.sizeOf9
def G3 := @Go.Proofs.Tryz.isAgg9
def L3 := @Go.Proofs.Tryz.underlying113
def N9 := @Go.Proofs.Tryz.sizeOf117
def I8 := @Go.Proofs.Tryz.underlying51
def M1 := @Go.Proofs.Tryz.sizeOf132
def J3 := @Go.Proofs.Tryz.underlying79
def N2 := @Go.Proofs.Tryz.sizeOf4
def O5 := @Go.Proofs.Tryz.isAgg4
def I1 := @Go.Proofs.Tryz.underlying115
def P9 := @Go.Proofs.Tryz.sizeOf113
def S3 := @Go.Proofs.Tryz.isAgg113
def Y8 := @Go.Proofs.Tryz.isAgg117
def Q9 := @Go.Proofs.Tryz.underlying117
def B5 := @Go.Proofs.Tryz.sizeOf3
def C6 := @Go.Proofs.Tryz.isAgg3
def V8 := @Go.Proofs.Tryz.underlying4
def P1 := @Go.Proofs.Tryz.underlying64
def W8 := @Go.Proofs.Tryz.underlying22
def a7 := @Go.Proofs.Tryz.sizeOf62
def I4 := @Go.Proofs.Tryz.underlying35
def B7 := @Go.Proofs.Tryz.underlying104
def H5 := @Go.Proofs.Tryz.sizeOf24
def K7 := @Go.Proofs.Tryz.isAgg24
def L0 := @Go.Proofs.Tryz.sizeOf30
def M3 := @Go.Proofs.Tryz.isAgg30
def G2 := @Go.Proofs.Tryz.underlying130
def H8 := @Go.Proofs.Tryz.sizeOf104
def O6 := @Go.Proofs.Tryz.isAgg104
def C4 := @Go.Proofs.Tryz.underlying53
def P6 := @Go.Proofs.Tryz.sizeOf49
def S1 := @Go.Proofs.Tryz.isAgg49
def G8 := @Go.Proofs.Tryz.sizeOf50
def M5 := @Go.Proofs.Tryz.isAgg50
def O7 := @Go.Proofs.Tryz.sizeOf51
def T0 := @Go.Proofs.Tryz.isAgg51
def Y9 := @Go.Proofs.Tryz.isAgg132
def M9 := @Go.Proofs.Tryz.underlying132
def H1 := @Go.Proofs.Tryz.underlying32
def E8 := @Go.Proofs.Tryz.underlying43
def N8 := @Go.Proofs.Tryz.sizeOf40
def Q6 := @Go.Proofs.Tryz.isAgg40
def U4 := @Go.Proofs.Tryz.sizeOf41
def V7 := @Go.Proofs.Tryz.isAgg41
def K5 := @Go.Proofs.Tryz.isAgg43
def F4 := @Go.Proofs.Tryz.sizeOf43
def P4 := @Go.Proofs.Tryz.underlying182
def X5 := @Go.Proofs.Tryz.underlying109
def N3 := @Go.Proofs.Tryz.underlying146
def Y2 := @Go.Proofs.Tryz.isAgg146
def S7 := @Go.Proofs.Tryz.sizeOf146
set_option linter.unusedVariables false
set_option linter.unusedSimpArgs false
namespace Go.AV
open Go.RowKit (Below)
section
variable {P : Program} {G : Nat → Prop} {n : Nat}
def OpE (P : Program) (G : Nat → Prop) (n : Nat) (W : List Own) (ops : Array Oper) (o : Oper) (E : EnvF) {α : Type} (ok : α → Prop) (W' : α → List Own) (V : α → AV) : Prop :=
  ∀ w0 R0 R a w, Core G w0 R0 W R w → a.tmps.size = n → (∀ t ∈ o.looksAt ops, ∀ y, E t = some y → y.den R (a.tmps.getD t undef)) →
    o.wp P a w (fun a' w' => ∃ x v R', ok x ∧ a' = a.put o.dst v ∧ Core G w0 R0 (W' x) R' w' ∧ RSub R R' ∧ (V x).den R' v) (fun _ _ _ => False)
theorem OpE.congr {W : List Own} {ops : Array Oper} {o : Oper} {E E' : EnvF} {α : Type} {ok : α → Prop} {W' : α → List Own} {V : α → AV} (h : OpE P G n W ops o E ok W' V) (he : ∀ t ∈ o.looksAt ops, E' t = E t) : OpE P G n W ops o E' ok W' V :=
  fun w0 R0 R a w h1 h2 h3 => h w0 R0 R a w h1 h2 fun t ht y hy => h3 t ht y (by rw [he t ht]; exact hy)
def InvX (base W : List Own) : Prop := ∃ ext, W = base ++ ext
theorem i6 {own : List Own} : InvX own own := ⟨[], (List.append_nil _).symm⟩
theorem H6 {own : List Own} : InvX [] own := ⟨own, rfl⟩
theorem V2 {own : List Own} (k : Nat) : InvX (own.take k) own := ⟨own.drop k, (List.take_append_drop k own).symm⟩
theorem E1 {base W ext : List Own} (h : W = base ++ ext) : InvX base W := ⟨ext, h⟩
theorem BC4 {R : RHeap} {w : World} {v : Value} {e : TypeId} {sz : Nat} {es : List (List AV)} (h : Own.ok R w (.arr v e sz es)) : v.oneCell' = true := by
  obtain ⟨_, _, xs, hown, _⟩ := h
  obtain ⟨oa, c, rfl, _⟩ := AE4 hown
  rfl
theorem T8 {own : List Own} {ops : Array Oper} {o : Oper} {rs : List Oper} {K : AState → Prop} {env : List (Nat × AV)} {v : Value} {e : TypeId} {sz : Nat} {es : List (List AV)} (i : Nat) (hi : own[i]? = some (.arr v e sz es)) (k : v.oneCell' = true → ASeq P G n ops (o :: rs) ⟨own, env⟩ K) : ASeq P G n ops (o :: rs) ⟨own, env⟩ K := fun w0 R0 R a w hs =>
  k (BC4 (hs.1.owned _ (F9 hi))) w0 R0 R a w hs
theorem P2 {own own' : List Own} {c : Code} {Q : Exit → AState → Prop} {env : List (Nat × AV)} (h : own = own') (k : AWP P G n c Q ⟨own', env⟩) : AWP P G n c Q ⟨own, env⟩ := by subst h; exact k
theorem B1 {own : List Own} {o : Oper} {E : EnvF} {t : TypeId} {p : Operand} {b off : Nat} {fs : Array Field} {fd : Field} {k j : Nat} (m : Nat) (ho : o.op = .fieldAddr t p k) (ht : P.underlying t = some (.struct fs)) (hk : fs[k]? = some fd) (hs : ∀ w, (sizeOf fd.type).run P w = .ok (j + 1) w)
    (hp : Ev E p (AV.ptr b off)) (hm : off + fd.offset = m) : OpW P G n own o E (AV.ptr b m) := by subst hm; exact w_fldB ho ht hk hs hp
def qB (P : Program) (G : Nat → Prop) (n : Nat) (Inv : List Own → Prop) (ops : Array Oper) (i : Nat) (K : EnvF → List Own → Prop) (E : EnvF) (W : List Own) : Prop :=
  match ops[i]? with
  | none => K E W
  | some o => (∃ x, OpA P G n W ops o E x ∧ K (updF o.dst x E) W) ∨
      (o.guard = none ∧ ∃ (α : Type) (ok : α → Prop) (W' : α → List Own) (V : α → AV), OpE P G n W ops o E ok W' V ∧ (∀ a, ok a → Inv (W' a)) ∧ ∀ a, ok a → K (updF o.dst (V a) E) (W' a))
theorem qB_mono {Inv : List Own → Prop} {ops : Array Oper} {i : Nat} {E : EnvF} {W : List Own} {K K' : EnvF → List Own → Prop} (hW : Inv W) (h : ∀ E W, Inv W → K E W → K' E W) (hh : qB P G n Inv ops i K E W) : qB P G n Inv ops i K' E W := by
  unfold qB at *
  split
  · exact h _ _ hW (by simpa [*] using hh)
  · rename_i o ho
    simp only [ho] at hh
    rcases hh with ⟨x, h1, h2⟩ | ⟨hg, α, ok, W', V, h1, h2, h3⟩
    · exact .inl ⟨x, h1, h _ _ hW h2⟩
    · exact .inr ⟨hg, α, ok, W', V, h1, h2, fun a ha => h _ _ (h2 a ha) (h3 a ha)⟩
def wpAnyB (P : Program) (G : Nat → Prop) (n : Nat) (Inv : List Own → Prop) (md : Region.Mode) (ops : Array Oper) (m : Nat) (L : Array Bool → EnvF → List Own → Prop) : Nat → Array Bool → EnvF → List Own → Prop
  | 0, listed, E, W => L listed E W
  | f + 1, listed, E, W => Region.ready md ops listed ≠ [] ∧ ∀ i ∈ Region.ready md ops listed, i < m ∧ qB P G n Inv ops i (wpAnyB P G n Inv md ops m L f (listed.setIfInBounds i true)) E W
theorem p7 {Inv : List Own → Prop} {md : Region.Mode} {ops : Array Oper} {m g : Nat} {L : Array Bool → EnvF → List Own → Prop} (hdst : ∀ (i : Nat) (o : Oper), ops[i]? = some o → ∀ d, o.dst = some d → d < n) {w0 : World} {R0 R00 : RHeap} {Q' : Exit → Act → World → Prop}
    (hL : ∀ listed E W R a w, RSub R00 R → Core G w0 R0 W R w → EnvOk E R a → a.tmps.size = n → a.defers = [] → L listed E W → wpAny P md ops Q' g listed a w) : ∀ (f : Nat) (listed : Array Bool) (E : EnvF) (W : List Own) (R : RHeap) (a : Act) (w : World),
    RSub R00 R → Core G w0 R0 W R w → EnvOk E R a → a.tmps.size = n → a.defers = [] → wpAnyB P G n Inv md ops m L f listed E W → wpAny P md ops Q' (f + g) listed a w
  | 0, listed, E, W, R, a, w, h1, h2, h3, h4, h5, h => by rw [Nat.zero_add]; exact hL _ _ _ R a w h1 h2 h3 h4 h5 h
  | f + 1, listed, E, W, R, a, w, h1, h2, h3, h4, h5, h => by
    rw [show f + 1 + g = (f + g) + 1 by omega]
    refine ⟨fun h0 => absurd h0 h.1, fun i hi => ?_⟩
    have hq := (h.2 i hi).2
    unfold qB at hq
    unfold wpOp
    cases ho : ops[i]? with
    | none =>
      simp only [ho] at hq
      exact p7 hdst hL f _ E W R a w h1 h2 h3 h4 h5 hq
    | some o =>
      simp only [ho] at hq
      have hdo : ∀ k, o.dst = some k → k < a.tmps.size := fun k e => by rw [h4]; exact hdst i o ho k e
      rcases hq with ⟨x, hx, hk⟩ | ⟨hg, α, ok, W', V, hx, _, hk⟩
      · obtain ⟨k1, k2⟩ := hx w0 R0 R a w h2 h4 fun t _ y hy => h3 t y hy
        by_cases hw : Region.wanted o (yielded ops a.tmps) = true
        · simp only [hw, if_true]
          refine .inl (Oper.wp_mono2 (fun a' w' ⟨v, R', e1, e2, e3, e4⟩ => ?_) (fun _ _ _ h => h.elim) (k1 hw))
          subst e1
          exact p7 hdst hL f _ (updF o.dst x E) W R' _ w' (h1.trans e3) e2 (e7 h3 e3 hdo e4) (by rw [V1]; exact h4) (by rw [R9]; exact h5) hk
        · have hwf : Region.wanted o (yielded ops a.tmps) = false := by simpa using hw
          simp only [hwf, Bool.false_eq_true, if_false]
          exact p7 hdst hL f _ (updF o.dst x E) W R _ w h1 h2 (e7 h3 (RSub.refl _) hdo (k2 hwf)) (by rw [V1]; exact h4) (by rw [R9]; exact h5) hk
      · have hw : Region.wanted o (yielded ops a.tmps) = true := AX7 hg
        simp only [hw, if_true]
        refine .inl (Oper.wp_mono2 (fun a' w' ⟨x, v, R', e0, e1, e2, e3, e4⟩ => ?_) (fun _ _ _ h => h.elim) (hx w0 R0 R a w h2 h4 fun t _ y hy => h3 t y hy))
        subst e1
        exact p7 hdst hL f _ (updF o.dst (V x) E) (W' x) R' _ w' (h1.trans e3) e2 (e7 h3 e3 hdo e4) (by rw [V1]; exact h4) (by rw [R9]; exact h5) (hk x e0)
theorem qB_put {Inv : List Own → Prop} {ops : Array Oper} {j : Nat} {oi oj : Oper} {x : AV} {W : List Own} (hj : ops[j]? = some oj) (hap : oi.apart ops oj = true) {K : EnvF → List Own → Prop} {E : EnvF} (hW : Inv W)
    (hy : ∀ W, Inv W → OpA P G n W ops oi E x) (h : qB P G n Inv ops j K (updF oi.dst x E) W) :
    qB P G n Inv ops j (fun E' W' => (∀ W, Inv W → OpA P G n W ops oi E' x) ∧ K (updF oi.dst x E') W') E W := by
  obtain ⟨h1, h2, h3⟩ := Oper.apart_spec hap
  unfold qB at *
  simp only [hj] at *
  rcases h with ⟨y, hu, hn⟩ | ⟨hg, α, ok, W', V, hu, hi, hn⟩
  · exact .inl ⟨y, hu.unupd h1, fun W hW => (hy W hW).upd h3, by rw [AR1 h2]; exact hn⟩
  · exact .inr ⟨hg, α, ok, W', V, hu.congr fun t ht => (i3 fun e => h1 t e ht).symm, hi, fun a ha => ⟨fun W hW => (hy W hW).upd h3, by rw [AR1 h2]; exact hn a ha⟩⟩
theorem AR8 {Inv : List Own → Prop} {md : Region.Mode} {ops : Array Oper} {m i : Nat} {oi : Oper} {x : AV} {L : Array Bool → EnvF → List Own → Prop} (hi : ops[i]? = some oi)
    (hs : Region.sinkB md ops m = true) (hc : Region.chainB md ops m = true) (hn : m < ops.size) (hin : i < m)
    (hdone : ∀ listed E W, L listed E W → ∀ j ∈ Region.ready md ops listed, m ≤ j) :
    ∀ (f : Nat) (listed : Array Bool) (E : EnvF) (W : List Own), HeadInv md ops m listed → Inv W →
      (∀ j oj, ops[j]? = some oj → j ≠ i → listed.getD j true = false → (∀ e ∈ oj.after, Region.binds md e = true → e.on ≠ i) → oi.apart ops oj = true) →
      i ∈ Region.ready md ops listed → (∀ W, Inv W → OpA P G n W ops oi E x) →
      wpAnyB P G n Inv md ops m L f (listed.setIfInBounds i true) (updF oi.dst x E) W → wpAnyB P G n Inv md ops m L (f + 1) listed E W := by
  have put : ∀ {K : EnvF → List Own → Prop} {E : EnvF} {W : List Own}, Inv W → (∀ W, Inv W → OpA P G n W ops oi E x) → K (updF oi.dst x E) W → qB P G n Inv ops i K E W := fun hW hy hK => by
    unfold qB
    simp only [hi]
    exact .inl ⟨x, hy _ hW, hK⟩
  intro f
  induction f with
  | zero =>
    intro listed E W inv hW _ hr hy H
    have hun := (mem_ready.1 hr).1
    refine ⟨fun h => (by rw [h] at hr; cases hr), fun j hj => ?_⟩
    have hjn : j < m := by
      rcases Nat.lt_or_ge j m with h | h
      · exact h
      · exact absurd hj (tail_waits hs hc hn inv _ i rfl hin hun j h)
    refine ⟨hjn, ?_⟩
    by_cases hji : j = i
    · subst hji; exact put hW hy H
    · have := hdone _ _ _ H j (ready_mono hj hji)
      omega
  | succ f ih =>
    intro listed E W inv hW hfree hr hy H
    have hun := (mem_ready.1 hr).1
    refine ⟨fun h => (by rw [h] at hr; cases hr), fun j hj => ?_⟩
    have hjn : j < m := by
      rcases Nat.lt_or_ge j m with h | h
      · exact h
      · exact absurd hj (tail_waits hs hc hn inv _ i rfl hin hun j h)
    refine ⟨hjn, ?_⟩
    by_cases hji : j = i
    · subst hji; exact put hW hy H
    · have h1 := (H.2 j (ready_mono hj hji)).2
      obtain ⟨hjun, oj, hoj, hall⟩ := mem_ready.1 hj
      have hnot : ∀ e ∈ oj.after, Region.binds md e = true → e.on ≠ i := fun e he hb heq => by
        have h1 := hall e he hb
        rw [heq, getD_both hun] at h1
        cases h1
      have h2 := qB_put hoj (hfree j oj hoj hji hjun hnot) hW hy h1
      have hfree' : ∀ k ok, ops[k]? = some ok → k ≠ i → (listed.setIfInBounds j true).getD k true = false →
          (∀ e ∈ ok.after, Region.binds md e = true → e.on ≠ i) → oi.apart ops ok = true := fun k ok hk hki hun hno => by
        refine hfree k ok hk hki ?_ hno
        by_cases hjk : j = k
        · subst hjk; exact hjun
        · rw [getD_set_ne true hjk] at hun; exact hun
      refine qB_mono hW (fun E' W' hW' h3 => ih (listed.setIfInBounds j true) E' W' (inv.set hj hjn) hW' hfree' (ready_mono hr (Ne.symm hji)) h3.1 ?_) h2
      rw [Array.setIfInBounds_comm _ _ hji]
      exact h3.2
def ordB (md : Region.Mode) (ops : Array Oper) (g m : Nat) : List (Nat × Bool) → Array Bool → Bool
  | [], listed => Region.seqB md ops g m listed
  | (i, false) :: r, listed => (Region.ready md ops listed).contains i && Region.free md ops listed i && Nat.blt i m && ordB md ops g m r (listed.setIfInBounds i true)
  | (i, true) :: r, listed => decide (Region.ready md ops listed = [i]) && Nat.blt i m && ordB md ops g m r (listed.setIfInBounds i true)
def mixB (md : Region.Mode) (ops : Array Oper) (ord : List (Nat × Bool)) : Bool :=
  decide (ord.length < ops.size) && Region.sinkB md ops ord.length && Region.chainB md ops ord.length && ordB md ops (ops.size - ord.length) ord.length ord (Array.replicate ops.size false)
def BCh (P : Program) (G : Nat → Prop) (n : Nat) (Inv : List Own → Prop) (ops : Array Oper) : List (Nat × Bool) → List (Nat × AV) → List Own → (List (Nat × AV) → List Own → Prop) → Prop
  | [], env, W, K => K env W
  | (i, false) :: r, env, W, K => ∃ o, ops[i]? = some o ∧ ∃ x, (∀ W', Inv W' → OpA P G n W' ops o (getv · env) x) ∧ BCh P G n Inv ops r (putv o.dst x env) W K
  | (i, true) :: r, env, W, K => ∃ o, ops[i]? = some o ∧ o.guard = none ∧ ∃ (α : Type) (ok : α → Prop) (W' : α → List Own) (V : α → AV), OpE P G n W ops o (getv · env) ok W' V ∧ (∀ a, ok a → Inv (W' a)) ∧ ∀ a, ok a → BCh P G n Inv ops r (putv o.dst (V a) env) (W' a) K
theorem AN2 {Inv : List Own → Prop} {md : Region.Mode} {ops : Array Oper} {m g : Nat} {K : List (Nat × AV) → List Own → Prop} (hs : Region.sinkB md ops m = true) (hc : Region.chainB md ops m = true) (hn : m < ops.size) :
    ∀ (l : List (Nat × Bool)) (listed : Array Bool) (env : List (Nat × AV)) (W : List Own), HeadInv md ops m listed → Inv W →
    ordB md ops g m l listed = true → BCh P G n Inv ops l env W K →
    wpAnyB P G n Inv md ops m (fun listed' E W => Region.seqB md ops g m listed' = true ∧ ∃ env', E = (getv · env') ∧ K env' W) l.length listed (getv · env) W
  | [], listed, env, W, _, _, hB, h => ⟨hB, env, rfl, h⟩
  | (i, false) :: l, listed, env, W, inv, hW, hB, h => by
    simp only [ordB, Bool.and_eq_true] at hB
    obtain ⟨⟨⟨hr, hf⟩, hlt⟩, hB'⟩ := hB
    have hkn : i < m := Nat.blt_eq.mp hlt
    have hr' : i ∈ Region.ready md ops listed := by simpa using hr
    obtain ⟨o, ho, x, hx, hK⟩ := h
    refine AR8 ho hs hc hn hkn (fun listed' E W hL => seqB_ready hL.1) l.length listed _ W inv hW (Region.free_spec ho hf) hr' hx ?_
    rw [← e6]
    exact AN2 hs hc hn l _ _ W (inv.set hr' hkn) hW hB' hK
  | (i, true) :: l, listed, env, W, inv, hW, hB, h => by
    simp only [ordB, Bool.and_eq_true, decide_eq_true_eq] at hB
    obtain ⟨⟨hr, hlt⟩, hB'⟩ := hB
    have hkn : i < m := Nat.blt_eq.mp hlt
    have hr' : i ∈ Region.ready md ops listed := by rw [hr]; simp
    obtain ⟨o, ho, hg, α, ok, W', V, h1, h2, h3⟩ := h
    refine ⟨fun h0 => (by rw [h0] at hr'; cases hr'), fun j hj => ?_⟩
    rw [hr] at hj
    have : j = i := by simpa using hj
    subst this
    refine ⟨hkn, ?_⟩
    unfold qB
    simp only [ho]
    refine .inr ⟨hg, α, ok, W', V, h1, h2, fun a ha => ?_⟩
    rw [← e6]
    exact AN2 hs hc hn l _ _ (W' a) (inv.set hr' hkn) (h2 a ha) hB' (h3 a ha)
theorem V3 {id : Nat} {l : List Oper} {Q : Exit → AState → Prop} {env : List (Nat × AV)} {own : List Own} (base : List Own) (ord : List (Nat × Bool)) (hm : P.follows .mixedOrders = true) (hB : mixB .any l.toArray ord = true) (hd : dstOk n l = true) (hb : InvX base own)
  (h : BCh P G n (InvX base) l.toArray ord env own (fun env' W => ASeq P G n l.toArray (l.drop ord.length) ⟨W, env'⟩ (Q .normal))) : AWP P G n (.region id l.toArray true) Q ⟨own, env⟩ := fun w0 R0 R a w ⟨h1, h2, h3, h4⟩ => by
 simp only [mixB, Bool.and_eq_true, decide_eq_true_eq] at hB
 obtain ⟨⟨⟨hn, hs⟩, hc⟩, hlex⟩ := hB
 have hn' : ord.length < l.length := by simpa using hn
 have hdl : (l.drop ord.length).length = l.toArray.size - ord.length := by simp
 have inv0 : HeadInv .any l.toArray ord.length (Array.replicate l.toArray.size false) :=
  ⟨by simp, fun j oj _ hl => (by rw [getD_replicate_false] at hl; cases hl), fun t _ ht => getD_in (by simpa using ht) (getD_replicate_false _ _)⟩
 have H := AN2 (g := l.toArray.size - ord.length) hs hc hn ord _ env own inv0 hb hlex h
 refine wp_region_any hm ?_
 have := p7 (w0 := w0) (R0 := R0) (R00 := R) (g := l.toArray.size - ord.length) (Q' := fun e a' w' => ∃ s' R', Q e s' ∧ RSub R R' ∧ St G n w0 R0 s' R' a' w') (fun i o ho d e => AC6 hd i o (by simpa using ho) d e) (fun listed E W R' a' w' g1 g2 g3 g4 g5 hL => by
  obtain ⟨hL1, env', rfl, hL2⟩ := hL
  have := wpAny_of_seq (P := P) (md := .any) (Q' := fun e a' w' => ∃ s' R', Q e s' ∧ RSub R R' ∧ St G n w0 R0 s' R' a' w') (l.drop ord.length) ord.length listed a' w' (fun j => by simp [List.getElem?_drop]) (by rw [hdl]; exact hL1)
   (j7 (R00 := R) (K := Q .normal) (fun s' R' a w q r1 r2 => ⟨s', R', q, r1, r2⟩) _ (⟨W, env'⟩ : AState) R' a' w' g1 ⟨g2, g3, g4, g5⟩ hL2)
  rwa [hdl] at this) _ _ _ own R a _ (RSub.refl _) (AB0 h1) h2 h3 h4 H
 rw [show ord.length + (l.toArray.size - ord.length) = l.toArray.size by omega] at this
 exact this
section
variable {ops : Array Oper} {i : Nat} {o : Oper} {r : List (Nat × Bool)} {env : List (Nat × AV)} {W : List Own} {base : List Own} {K : List (Nat × AV) → List Own → Prop} {d : Nat} {x : AV}
theorem l4 {Inv : List Own → Prop} (h : K env W) : BCh P G n Inv ops [] env W K := h
theorem H7 (ho : ops[i]? = some o) (hg : o.guard = none) (hd : o.dst = some d) (h : ∀ ext, OpW P G n (base ++ ext) o (getv · env) x) (k : BCh P G n (InvX base) ops r ((d, x) :: env) W K) : BCh P G n (InvX base) ops ((i, false) :: r) env W K :=
  ⟨o, ho, x, fun W' ⟨ext, e⟩ => by subst e; exact AF9 hg (h ext), by rw [hd]; exact k⟩
theorem V4 {Inv : List Own → Prop} {α : Type} {ok : α → Prop} {W' : α → List Own} {V : α → AV} (ho : ops[i]? = some o) (hg : o.guard = none) (hd : o.dst = some d) (h : OpE P G n W ops o (getv · env) ok W' V) (hi : ∀ a, ok a → Inv (W' a)) (k : ∀ a, ok a → BCh P G n Inv ops r ((d, V a) :: env) (W' a) K) : BCh P G n Inv ops ((i, true) :: r) env W K :=
  ⟨o, ho, hg, α, ok, W', V, h, hi, fun a ha => by rw [hd]; exact k a ha⟩
section
variable {α : Type} {ok : α → Prop} {O : α → List Own} {V : α → AV} {E : EnvF} {f : FuncId} {args : Array Operand} {tys : Array TypeId} {ps : List Operand} {xs : List AV} {sel rest : List Own}
theorem s5 {p : Operand} {R : RHeap} {a : Act} (hev : Ev E p x) (hm : p ∈ o.op.operands.toList) (he : ∀ t ∈ o.looksAt ops, ∀ y, E t = some y → y.den R (a.tmps.getD t undef)) : x.den R (a.eval p) :=
  K1 hev hm fun t ht => he t (n3 ht)
theorem Y0 (is : List Nat) (ho : o.op = .call { callee := .value (.func f), args := args, argTypes := tys })
    (hc : ∀ (vs : Array Value) (w : World), (callFunc f vs).run P w = .ok (.enter f vs) w) (hps : args.toList = ps) (hs : GSpec P f xs sel ok O V) (he : EvL E ps xs) (hp : pick W is = (sel, rest)) :
    OpE P G n W ops o E ok (fun a => rest ++ O a) V := fun w0 R0 R a w h1 h3 h2 => by
  have hcore := m9 h1 hp
  have hden := w7 (o := o) (fun t ht => h2 t (n3 ht)) he fun p hp => by simp [ho, Op.operands, Call.operands]; right; rw [← hps] at hp; exact Array.mem_toList_iff.1 hp
  have hrun : (execOp a.eval o).run P w = .ok (.enter f (ps.map a.eval).toArray) w := by
    have hargs : args.map a.eval = (ps.map a.eval).toArray := by rw [← hps]; cases args; simp
    simp only [execOp, ho, resolve, hargs, show a.eval (.func f) = .func (.func f) #[] #[] from rfl]
    simp [Deferred.ofValue, invoke, hc]
  unfold Oper.wp
  rw [hrun, Oper.upon_enter]
  refine (hs R w _ hcore.rle hden (fun q hq => hcore.owned q (List.mem_append_left _ hq)) (W9 hcore).sep).mono fun e w' ⟨x, v, R', e0, e1, e2, e3⟩ => ?_
  subst e1
  exact ⟨x, v, R', e0, rfl, Z4 (AC9 hcore e3) List.perm_append_comm, n8 hcore.rle e3.rold, e2⟩
end
end
end
end Go.AV

namespace Go.AV
open Go.RowKit (Below)
section
variable {P : Program} {G : Nat → Prop} {n : Nat} {own : List Own} {o : Oper} {E : EnvF}
end
end Go.AV

namespace Go.AV
open Go.RowKit (Below)
section
variable {P : Program} {G : Nat → Prop} {n : Nat} {own : List Own} {o : Oper} {E : EnvF}
theorem Aa6 {c : Code} {Q : Exit → AState → Prop} {env : List (Nat × AV)} {v : Value} {e : TypeId} {sz : Nat} {es : List (List AV)} (i : Nat) (hi : own[i]? = some (.arr v e sz es)) (k1 : v = .slice none 0 0 → es = [] → AWP P G n c Q ⟨own, env⟩)
  (k2 : ∀ g cap, v = .slice (some ⟨g, 0, none⟩) es.length cap → es.length ≤ cap → cap ≤ 9223372036854775807 → AWP P G n c Q ⟨own, env⟩) : AWP P G n c Q ⟨own, env⟩ := fun w0 R0 R a w hs => by
 obtain ⟨_, _, xs, hown, _⟩ := hs.1.owned _ (F9 hi)
 rcases hown.2 with ⟨h1, h2⟩ | ⟨g, cap, cur, h1, _, _, hn, hm, _⟩
 ·exact k1 h1 (List.eq_nil_of_length_eq_zero h2) w0 R0 R a w hs
 exact k2 g cap h1 hn (by unfold maxLen at hm; omega) w0 R0 R a w hs
abbrev slv (g len cap : Nat) : Value := .slice (some ⟨g, 0, none⟩) len cap
section vals
variable {t e : TypeId} {p q q' q'' : Operand} {g len cap sz : Nat}
theorem As4 {oa : Option Addr} (ho : o.op = .call { callee := .builtin .len, args := #[p], argTypes := #[t] }) (ht : P.underlying t = some (.slice e)) (hp : Ev E p (AV.is (.slice oa len cap))) : OpW P G n own o E (AV.int len) := P5 fun R a w _ he => by
  have h1 : a.eval p = _ := K1 hp (by simp [ho, Op.operands, Call.operands]) he
  have hel : P.elem t = e := by simp [Program.elem, ht]
  have h2 := run_len_slice (P := P) w t o.type oa len cap (by rw [hel]; exact ht)
  exact ⟨.int .i64 len, by simp only [execOp, ho, resolve, invoke, builtin, List.map_toArray, List.map_cons, List.map_nil, h1, h2, Sem.run_bind, Sem.run_pure, Result.andThen_ok, goInt], rfl⟩
theorem w_vcap {oa : Option Addr} (ho : o.op = .call { callee := .builtin .cap, args := #[p], argTypes := #[t] }) (ht : P.underlying t = some (.slice e)) (hp : Ev E p (AV.is (.slice oa len cap))) : OpW P G n own o E (AV.int cap) := P5 fun R a w _ he => by
  have h1 : a.eval p = _ := K1 hp (by simp [ho, Op.operands, Call.operands]) he
  have hel : P.elem t = e := by simp [Program.elem, ht]
  have h2 := run_cap_slice (P := P) w t o.type oa len cap (by rw [hel]; exact ht)
  exact ⟨.int .i64 cap, by simp only [execOp, ho, resolve, invoke, builtin, List.map_toArray, List.map_cons, List.map_nil, h1, h2, Sem.run_bind, Sem.run_pure, Result.andThen_ok, goInt], rfl⟩
theorem AY0 (g hi cap sz : Nat) : sliced (some ⟨g, 0, none⟩) 0 hi cap sz = slv g hi cap := by
  unfold sliced
  by_cases hc : cap = 0
  · simp [hc]
  · simp [hc, Addr.add]
theorem w_vhi {hi : Int} (ho : o.op = .slice t p none (some q) none) (ht : P.underlying t = some (.slice e)) (hsz : ∀ w, (sizeOf e).run P w = .ok sz w) (hp : Ev E p (AV.is (slv g len cap))) (hq : Ev E q (AV.int hi)) (h0 : 0 ≤ hi) (h1 : hi ≤ cap) : OpW P G n own o E (AV.is (slv g hi.toNat cap)) := P5 fun R a w _ he => by
  have e1 : a.eval p = _ := K1 hp (by simp [ho, Op.operands]) he
  have e2 : a.eval q = .int .i64 hi := K1 hq (by simp [ho, Op.operands]) he
  have hel : P.elem t = e := by simp [Program.elem, ht]
  have hr1 := run_slice_h (P := P) (w := w) (t := t) (a := some ⟨g, 0, none⟩) (len := len) (cap := cap) (by rw [hel]; exact ht) .i64 hi h0 h1
  rw [hel, hsz, Result.andThen_ok, AY0] at hr1
  exact ⟨_, by simp only [execOp, ho, e1, e2, Option.map_some, Option.map_none, run_sliceAt_slice w t _ _ _ _ (by rw [hel]; exact ht), hr1, Sem.run_bind, Sem.run_pure, Result.andThen_ok], rfl⟩
theorem AG3 {lo : Int} (ho : o.op = .slice t p (some q) none none) (ht : P.underlying t = some (.slice e)) (hsz : ∀ w, (sizeOf e).run P w = .ok sz w) (hp : Ev E p (AV.is (slv g len cap))) (hq : Ev E q (AV.int lo)) (h0 : 0 ≤ lo) (h1 : lo ≤ len) : OpW P G n own o E (AV.is (sliced (some ⟨g, 0, none⟩) lo.toNat len cap sz)) := P5 fun R a w _ he => by
  have e1 : a.eval p = _ := K1 hp (by simp [ho, Op.operands]) he
  have e2 : a.eval q = .int .i64 lo := K1 hq (by simp [ho, Op.operands]) he
  have hel : P.elem t = e := by simp [Program.elem, ht]
  have hr1 := run_slice_l (P := P) (w := w) (t := t) (a := some ⟨g, 0, none⟩) (len := len) (cap := cap) (by rw [hel]; exact ht) .i64 lo h0 h1
  rw [hel, hsz, Result.andThen_ok] at hr1
  exact ⟨_, by simp only [execOp, ho, e1, e2, Option.map_some, Option.map_none, run_sliceAt_slice w t _ _ _ _ (by rw [hel]; exact ht), hr1, Sem.run_bind, Sem.run_pure, Result.andThen_ok], rfl⟩
end vals

theorem AP6 (w : World) (dT sT ty elem : TypeId) {inf : TypeInfo} (g o dLen dCap : Nat) (a : Addr) (sLen sCap : Nat) (cur : Array Value) (t : TypeId) (cs : List Value)
    (hu : P.underlying dT = some (.slice elem)) (hi : P.info? elem = some inf)
    (hg : w.heap[g]? = some (.cells cur t (0, 0))) (hn : cs.length = Nat.min sLen dLen * inf.size)
    (hsrc : ∀ j v, cs[j]? = some v → w.cell? (a.add j) = some v) (hfit : o + cs.length ≤ cur.size) (h1 : ∀ v ∈ cs, v.oneCell' = true) :
    (Builtin.copy_ #[dT, sT] ty #[.slice (some ⟨g, o, none⟩) dLen dCap, .slice (some a) sLen sCap]).run P w =
      .ok (goInt (Nat.min sLen dLen)) (w.setRow g (cur.toList.take o ++ cs ++ cur.toList.drop (o + cs.length)).toArray) := by
  have hl := run_loadCells_list (P := P) w a cs hsrc
  have hst := run_storeCells_at P g o t cs 0 cur w hg (by simpa using hfit) h1
  simp [Builtin.copy_, run_underlying hu, Builtin.lenOf, Builtin.firstCells, sizeOf, typeInfo, hi, ← hn, hl, hst]
def SrcIs (own : List Own) (E : EnvF) (q : Operand) (sz : Nat) (fs : List (List AV)) : Prop :=
  ∀ (G : Nat → Prop) (w0 : World) (R0 R : RHeap) (a : Act) (w : World), Core G w0 R0 own R w → (∀ t, q = .tmp t → ∀ y, E t = some y → y.den R (a.tmps.getD t undef)) →
    (∀ f ∈ fs, f.length = sz) ∧ (fs ≠ [] → ∃ ad cap vs, a.eval q = .slice (some ad) fs.length cap ∧ (∀ j u, vs[j]? = some u → w.cell? (ad.add j) = some u) ∧ DenC R vs fs.flatten)
theorem y5 {R : RHeap} {w : World} {g len cap : Nat} {e : TypeId} {sz : Nat} {es : List (List AV)} (h : Own.ok R w (.arr (slv g len cap) e sz es)) : len = es.length ∧ len ≤ cap ∧ cap ≤ maxLen ∧ (∀ x ∈ es, x.length = sz) ∧ ∃ (cur : Array Value) (xs : List Value), w.heap[g]? = some (.cells cur e (0, 0)) ∧ cur.size = cap * sz ∧ cur.toList.take (len * sz) = xs ∧ xs.length = len * sz ∧ DenC R xs es.flatten := by
  obtain ⟨_, hu, xs, hown, hd⟩ := h
  rcases hown.2 with ⟨h1, _⟩ | ⟨g', cap', cur, h1, _, hg, hn, hm, hcs, htake⟩
  · cases h1
  · injection h1 with e1 e2 e3
    injection e1 with e1
    injection e1 with e1
    subst e1; subst e2; subst e3
    exact ⟨rfl, hn, hm, hu, cur, xs, hg, hcs, htake, hown.1, hd⟩
theorem BC5 {q : Operand} {g len cap k : Nat} {e : TypeId} {sz : Nat} {es : List (List AV)} (i : Nat) (hi : own[i]? = some (.arr (slv g len cap) e sz es)) (hq : Ev E q (AV.is (sliced (some ⟨g, 0, none⟩) k len cap sz))) : SrcIs own E q sz (es.drop k) := fun G w0 R0 R a w hc he => by
  have e1 : a.eval q = _ := hq R a he
  obtain ⟨hl, hlc, _, hu, cur, xs, hg, hcs, htake, hxl, hd⟩ := y5 (hc.owned _ (F9 hi))
  refine ⟨fun f hf => hu f (List.mem_of_mem_drop hf), fun hne => ?_⟩
  have hk : k < es.length := by
    rcases Nat.lt_or_ge k es.length with h | h
    · exact h
    · exact absurd (List.drop_eq_nil_of_le h) hne
  have hmul : k * sz ≤ len * sz := Nat.mul_le_mul_right sz (by omega)
  refine ⟨⟨g, k * sz, none⟩, cap - k, xs.drop (k * sz), ?_, fun j u hu' => ?_, ?_⟩
  · rw [e1]; unfold sliced
    rw [if_neg (by omega), Option.map_some, g7, Nat.zero_add, List.length_drop, hl]
  · rw [List.getElem?_drop] at hu'
    have hjl : k * sz + j < len * sz := by rw [← hxl]; exact (List.getElem?_eq_some_iff.1 hu').1
    rw [g7]
    rw [← htake, List.getElem?_take_of_lt hjl, Array.getElem?_toList] at hu'
    simp [World.cell?, hg, hu']
  · rw [m4 k hu]
    exact ⟨by simp [hd.1], fun j v x hv hx => hd.2 _ v x (by rw [List.getElem?_drop] at hv; exact hv) (by rw [List.getElem?_drop] at hx; exact hx)⟩
theorem AE8 {q : Operand} {g len cap : Nat} {e : TypeId} {sz : Nat} {es : List (List AV)} (i : Nat) (hi : own[i]? = some (.arr (slv g len cap) e sz es)) (hq : Ev E q (AV.is (slv g len cap))) : SrcIs own E q sz es := by
  have := BC5 (k := 0) i hi (by rw [AY0]; exact hq)
  rwa [List.drop_zero] at this
theorem AY1 {g k m cap sz : Nat} (h : k < m) (hc : m ≤ cap) : sliced (some ⟨g, 0, none⟩) k m cap sz = .slice (some ⟨g, k * sz, none⟩) (m - k) (cap - k) := by
  unfold sliced
  rw [if_neg (by omega), Option.map_some, g7, Nat.zero_add]
theorem As5 {sz k : Nat} {es fs : List (List AV)} (hu : ∀ e ∈ es, e.length = sz) (hf : ∀ f ∈ fs, f.length = sz) : (es.take k ++ fs ++ es.drop (k + fs.length)).flatten = splice es.flatten (k * sz) fs.flatten := by
  rw [List.flatten_append, List.flatten_append, e8 k hu, m4 (k + fs.length) hu]
  unfold splice
  rw [V6 hf, Nat.add_mul]
theorem Ah0 {ops : Array Oper} {rest : List Oper} {env : List (Nat × AV)} {K : AState → Prop} {t e : TypeId} {p q : Operand} {d sz g len cap k m : Nat} {inf : TypeInfo} {es fs : List (List AV)} (i : Nat) (hg : o.guard = none) (ho : o.op = .call { callee := .builtin .copy, args := #[p, q], argTypes := #[t, t] }) (hd : o.dst = some d) (hn : Nat.blt d n = true)
    (ht : P.underlying t = some (.slice e)) (hinf : P.info? e = some inf) (hsz : inf.size = sz) (hp : Ev (getv · env) p (AV.is (sliced (some ⟨g, 0, none⟩) k m cap sz))) (hq : SrcIs own (getv · env) q sz fs) (hi : own[i]? = some (.arr (slv g len cap) e sz es))
    (hk : k + fs.length ≤ len) (hm : k + fs.length ≤ m) (hmc : m ≤ cap) (hne : fs ≠ []) (c : ASeq P G n ops rest ⟨own.set i (.arr (slv g len cap) e sz (es.take k ++ fs ++ es.drop (k + fs.length))), (d, AV.int fs.length) :: env⟩ K) : ASeq P G n ops (o :: rest) ⟨own, env⟩ K :=
  X9 hg fun w0 R0 R a w ⟨h1, h2, h3, h4⟩ => by
    have e1 : a.eval p = _ := d3 (s := ⟨own, env⟩) (o := o) hp h2
    obtain ⟨hfu, hsrc⟩ := hq G w0 R0 R a w h1 (fun t _ y hy => h2 t y hy)
    obtain ⟨ad, sc, vs, e2, hcell, hden⟩ := hsrc hne
    have hpos : 0 < fs.length := List.length_pos_iff.2 hne
    have hok := h1.owned _ (F9 hi)
    obtain ⟨hl, hlc, hcm, hu, cur, xs, hgw, hcs, htake, hxl, hdc⟩ := y5 hok
    rw [AY1 (by omega) hmc] at e1
    have hvl : vs.length = fs.length * sz := by rw [hden.1, V6 hfu]
    have hmin : Nat.min fs.length (m - k) = fs.length := Nat.min_eq_left (by omega)
    have hone : ∀ u ∈ vs, u.oneCell' = true := fun u hmu => by
      obtain ⟨j, hj⟩ := List.getElem?_of_mem hmu
      have hjl : j < fs.flatten.length := by rw [← hden.1]; exact (List.getElem?_eq_some_iff.1 hj).1
      exact (hden.2 j u _ hj (List.getElem?_eq_getElem hjl)).2
    have hb1 : k * sz + fs.length * sz ≤ len * sz := by rw [← Nat.add_mul]; exact Nat.mul_le_mul_right sz hk
    have hb2 : len * sz ≤ cap * sz := Nat.mul_le_mul_right sz hlc
    have hr := AP6 (P := P) w t t o.type e g (k * sz) (m - k) (cap - k) ad fs.length sc cur e vs ht hinf hgw (by rw [hmin, hsz]; exact hvl) hcell (by rw [hvl, hcs]; omega) hone
    rw [hmin] at hr
    have hex : (execOp a.eval o).run P w = .ok (.value (.int .i64 fs.length)) (w.setRow g (cur.toList.take (k * sz) ++ vs ++ cur.toList.drop (k * sz + vs.length)).toArray) := by
      simp only [execOp, ho, resolve, invoke, builtin, Sem.run_bind, Sem.run_pure, Result.andThen_ok, List.map_toArray, List.map_cons, List.map_nil, e1, e2, hr, goInt]
    unfold Oper.wp
    rw [hex, Oper.upon_value, hd]
    have hel : (es.take k ++ fs ++ es.drop (k + fs.length)).length = len := by simp; omega
    refine ⟨_, R, c, RSub.refl _, s4 h1 hi rfl rfl ⟨hok.1, fun z hz => ?_, xs.take (k * sz) ++ vs ++ xs.drop (k * sz + vs.length), ⟨?_, .inr ⟨g, cap, _, by rw [hel], Nat.zero_le _, setRow_heap w g _ _ e _ hgw, by rw [hel]; exact hlc, hcm, ?_, ?_⟩⟩, ?_⟩ (j0 w g _), Z3 h2 (RSub.refl _) (by rw [h3]; exact Nat.blt_eq.mp hn) rfl, by rw [V1]; exact h3, by rw [R9]; exact h4⟩
    · rcases List.mem_append.1 hz with hz | hz
      · rcases List.mem_append.1 hz with hz | hz
        · exact hu z (List.mem_of_mem_take hz)
        · exact hfu z hz
      · exact hu z (List.mem_of_mem_drop hz)
    · rw [hel]; simp only [J6, D9, List.length_drop, hxl, hvl]; omega
    · simp only [List.size_toArray, J6, D9, List.length_drop, Array.length_toList, hvl, hcs]; omega
    · rw [hel, ← htake]
      exact AX8 (by rw [Array.length_toList, hcs]; exact hb2) (by rw [hvl]; exact hb1)
    · rw [As5 hu hfu]
      exact q8 hdc hden (by rw [V6 hu, V6 hfu, ← hl]; exact hb1)
theorem sq_shift {ops : Array Oper} {rest : List Oper} {env : List (Nat × AV)} {K : AState → Prop} {t e : TypeId} {p q : Operand} {d sz g len cap k : Nat} {inf : TypeInfo} {es : List (List AV)} (i : Nat) (hg : o.guard = none) (ho : o.op = .call { callee := .builtin .copy, args := #[p, q], argTypes := #[t, t] }) (hd : o.dst = some d) (hn : Nat.blt d n = true)
    (ht : P.underlying t = some (.slice e)) (hinf : P.info? e = some inf) (hsz : inf.size = sz) (hp : Ev (getv · env) p (AV.is (sliced (some ⟨g, 0, none⟩) (k + 1) (len + 1) cap sz))) (hq : Ev (getv · env) q (AV.is (sliced (some ⟨g, 0, none⟩) k (len + 1) cap sz))) (hi : own[i]? = some (.arr (slv g len cap) e sz es))
    (hk : k < len) (hc : len + 1 ≤ cap) (c : ∀ j, ASeq P G n ops rest ⟨own.set i (.arr (slv g (len + 1) cap) e sz (es.take (k + 1) ++ es.drop k)), (d, AV.int j) :: env⟩ K) : ASeq P G n ops (o :: rest) ⟨own, env⟩ K :=
  X9 hg fun w0 R0 R a w ⟨h1, h2, h3, h4⟩ => by
    have e1 : a.eval p = _ := d3 (s := ⟨own, env⟩) (o := o) hp h2
    have e2 : a.eval q = _ := d3 (s := ⟨own, env⟩) (o := o) hq h2
    have hok := h1.owned _ (F9 hi)
    obtain ⟨hl, hlc, hcm, hu, cur, xs, hgw, hcs, htake, hxl, hdc⟩ := y5 hok
    rw [AY1 (by omega) hc] at e1 e2
    have hmin : Nat.min (len + 1 - k) (len + 1 - (k + 1)) = len - k := by
      show min (len + 1 - k) (len + 1 - (k + 1)) = len - k
      omega
    have hb0 : k * sz ≤ len * sz := Nat.mul_le_mul_right sz (by omega)
    have hb1 : (k + 1) * sz + (len - k) * sz = (len + 1) * sz := by rw [← Nat.add_mul]; congr 1; omega
    have hb2 : (len + 1) * sz ≤ cap * sz := Nat.mul_le_mul_right sz hc
    have hb3 : (k + 1) * sz ≤ len * sz := Nat.mul_le_mul_right sz (by omega)
    have hb4 : len * sz ≤ cap * sz := Nat.mul_le_mul_right sz hlc
    have hvl : (xs.drop (k * sz)).length = (len - k) * sz := by rw [List.length_drop, hxl, Nat.sub_mul]
    have hone : ∀ u ∈ xs.drop (k * sz), u.oneCell' = true := fun u hmu => by
      obtain ⟨j, hj⟩ := List.getElem?_of_mem (List.mem_of_mem_drop hmu)
      have hjl : j < es.flatten.length := by rw [← hdc.1]; exact (List.getElem?_eq_some_iff.1 hj).1
      exact (hdc.2 j u _ hj (List.getElem?_eq_getElem hjl)).2
    have hcell : ∀ j u, (xs.drop (k * sz))[j]? = some u → w.cell? ((⟨g, k * sz, none⟩ : Addr).add j) = some u := fun j u hu' => by
      rw [List.getElem?_drop] at hu'
      have hjl : k * sz + j < len * sz := by rw [← hxl]; exact (List.getElem?_eq_some_iff.1 hu').1
      rw [g7]
      rw [← htake, List.getElem?_take_of_lt hjl, Array.getElem?_toList] at hu'
      simp [World.cell?, hgw, hu']
    have hr := AP6 (P := P) w t t o.type e g ((k + 1) * sz) (len + 1 - (k + 1)) (cap - (k + 1)) ⟨g, k * sz, none⟩ (len + 1 - k) (cap - k) cur e (xs.drop (k * sz)) ht hinf hgw (by rw [hmin, hsz]; exact hvl) hcell (by rw [hvl, hcs]; omega) hone
    rw [hmin] at hr
    have hex : (execOp a.eval o).run P w = .ok (.value (.int .i64 ((len - k : Nat) : Int))) (w.setRow g (cur.toList.take ((k + 1) * sz) ++ xs.drop (k * sz) ++ cur.toList.drop ((k + 1) * sz + (xs.drop (k * sz)).length)).toArray) := by
      simp only [execOp, ho, resolve, invoke, builtin, Sem.run_bind, Sem.run_pure, Result.andThen_ok, List.map_toArray, List.map_cons, List.map_nil, e1, e2, hr, goInt]
    unfold Oper.wp
    rw [hex, Oper.upon_value, hd]
    have hel : (es.take (k + 1) ++ es.drop k).length = len + 1 := by simp; omega
    refine ⟨_, R, c _, RSub.refl _, s4 h1 hi rfl rfl ⟨hok.1, fun z hz => ?_, xs.take ((k + 1) * sz) ++ xs.drop (k * sz), ⟨?_, .inr ⟨g, cap, _, by rw [hel], Nat.zero_le _, setRow_heap w g _ _ e _ hgw, by rw [hel]; exact hc, hcm, ?_, ?_⟩⟩, ?_⟩ (j0 w g _), Z3 h2 (RSub.refl _) (by rw [h3]; exact Nat.blt_eq.mp hn) rfl, by rw [V1]; exact h3, by rw [R9]; exact h4⟩
    · rcases List.mem_append.1 hz with hz | hz
      · exact hu z (List.mem_of_mem_take hz)
      · exact hu z (List.mem_of_mem_drop hz)
    · rw [hel, J6, hvl, D9, hxl]; omega
    · simp only [List.size_toArray, J6, D9, List.length_drop, Array.length_toList, hcs, hxl]
      have : len * sz - k * sz = (len - k) * sz := (Nat.sub_mul _ _ _).symm
      omega
    · rw [hel]
      show List.take ((len + 1) * sz) (cur.toList.take ((k + 1) * sz) ++ xs.drop (k * sz) ++ cur.toList.drop ((k + 1) * sz + (xs.drop (k * sz)).length)) = _
      have hl2 : (cur.toList.take ((k + 1) * sz) ++ xs.drop (k * sz)).length = (len + 1) * sz := by rw [J6, hvl, D9, Array.length_toList, hcs]; omega
      rw [← hl2, List.take_left', ← htake, List.take_take, Nat.min_eq_left hb3]
      rfl
    · rw [List.flatten_append, e8 (k + 1) hu, m4 k hu]
      refine j3 ⟨by simp [hdc.1], fun j u x hu' hx => ?_⟩ ⟨by simp [hdc.1], fun j u x hu' hx => ?_⟩
      · by_cases hj : j < (k + 1) * sz
        · rw [List.getElem?_take_of_lt hj] at hu' hx; exact hdc.2 j u x hu' hx
        · rw [List.getElem?_eq_none (by simp; omega)] at hu'; cases hu'
      · rw [List.getElem?_drop] at hu' hx; exact hdc.2 _ u x hu' hx
theorem zero_den {R : RHeap} {z : Value} {sz : Nat} (hzs : z.cells.size = sz) (h1z : z.cells.toList.all Value.oneCell' = true) (hpos : 0 < sz) (m : Nat) : DenC R (Builtin.zeroCells z.cells m).toList (List.replicate m (z.cells.toList.map zeroA)).flatten := by
  have hlz := AK1 z sz hzs m
  have hu : ∀ e ∈ List.replicate m (z.cells.toList.map zeroA), e.length = sz := fun e he => by rw [(List.mem_replicate.1 he).2]; simp [hzs]
  refine ⟨by rw [hlz.1, V6 hu]; simp, fun j u x hu' hx => ?_⟩
  have hjl : j < m * sz := by rw [← hlz.1]; exact (List.getElem?_eq_some_iff.1 hu').1
  have hjm : j % sz < sz := Nat.mod_lt _ hpos
  have hjd : j / sz < m := Nat.div_lt_of_lt_mul (by rw [Nat.mul_comm]; exact hjl)
  have hjj : j / sz * sz + j % sz = j := by rw [Nat.mul_comm]; exact Nat.div_add_mod j sz
  have hzj : z.cells.toList[j % sz]? = some (z.cells.toList[j % sz]'(by simp [hzs]; exact hjm)) := List.getElem?_eq_getElem _
  have hx2 := Y6 hu (i := j / sz) (e := z.cells.toList.map zeroA) (by rw [List.getElem?_replicate, if_pos hjd]) (k := j % sz) (x := zeroA (z.cells.toList[j % sz]'(by simp [hzs]; exact hjm))) (by rw [List.getElem?_map, hzj]; rfl)
  rw [hjj, hx] at hx2
  injection hx2 with hx2
  have hu2 : u = z.cells.toList[j % sz]'(by simp [hzs]; exact hjm) := by
    rw [hlz.2 j u hu', getElem!_pos z.cells _ (by rw [hzs]; exact hjm)]; simp
  rw [hx2, hu2]
  exact ⟨i5 R _, List.all_eq_true.1 h1z _ (by simp)⟩
theorem BF3 {ops : Array Oper} {rest : List Oper} {env : List (Nat × AV)} {K : AState → Prop} {t tn e : TypeId} {p q : Operand} {kn : IntKind} {d sz by' g len cap j m : Nat} {inf : TypeInfo} {z : Value} {es : List (List AV)} (i : Nat) (hg : o.guard = none) (ho : o.op = .call { callee := .builtin .append, args := #[p, q], argTypes := #[t, tn] }) (hd : o.dst = some d) (hn : Nat.blt d n = true)
    (ht : P.underlying t = some (.slice e)) (htn : P.underlying tn = some (.int kn)) (hinf : P.info? e = some inf) (hz : inf.zero = some z) (hsz : inf.size = sz) (hby : inf.bytes = by') (hzs : z.cells.size = sz) (hpos' : Nat.ble 1 sz = true) (h1z : z.cells.toList.all Value.oneCell' = true) (hp : Ev (getv · env) p (AV.is (slv g j cap))) (hq : Ev (getv · env) q (AV.int m)) (hi : own[i]? = some (.arr (slv g len cap) e sz es))
    (hj : j ≤ len) (hm : 0 < m) (hc : cap < j + m) (hlen : (j + m) * by' ≤ 140737488355328) (hlen2 : j + m ≤ 9223372036854775807) (k : ∀ g' cap', j + m ≤ cap' → ASeq P G n ops rest ⟨.arr (slv g' (j + m) cap') e sz (es.take j ++ List.replicate m (z.cells.toList.map zeroA)) :: own, (d, AV.is (slv g' (j + m) cap')) :: env⟩ K) : ASeq P G n ops (o :: rest) ⟨own, env⟩ K :=
  X9 hg fun w0 R0 R a w ⟨h1, h2, h3, h4⟩ => by
    have hpos := Nat.le_of_ble_eq_true hpos'
    have e1 : a.eval p = _ := d3 (s := ⟨own, env⟩) (o := o) hp h2
    have e2 : a.eval q = .int .i64 m := d3 (s := ⟨own, env⟩) (o := o) hq h2
    obtain ⟨hl, hlc, hcm, hu, cur, xs, hgw, hcs, htake, hxl, hdc⟩ := y5 (h1.owned _ (F9 hi))
    have hb1 : j * sz ≤ len * sz := Nat.mul_le_mul_right sz hj
    have hb2 : len * sz ≤ cap * sz := Nat.mul_le_mul_right sz hlc
    have hold : (Builtin.firstCells inf.size j (slv g j cap)).run P w.drew = .ok (xs.take (j * sz)).toArray w.drew := by
      have := run_loadCells_list (P := P) w.drew ⟨g, 0, none⟩ (xs.take (j * sz)) (fun i u hu' => by
        have hil : i < j * sz := by have := (List.getElem?_eq_some_iff.1 hu').1; rw [D9] at this; omega
        rw [List.getElem?_take_of_lt hil, ← htake, List.getElem?_take_of_lt (by omega), Array.getElem?_toList] at hu'
        rw [g7, Nat.zero_add]
        show w.cell? _ = _
        simp [World.cell?, hgw, hu'])
      rw [D9, hxl, Nat.min_eq_left hb1] at this
      simpa [Builtin.firstCells, hsz] using this
    have hr := Lib.run_append_grow_zeros (P := P) w t tn o.type e inf z .i64 kn ht htn hinf hz (some ⟨g, 0, none⟩) j cap _ hold m hm (by omega) hc (by omega) (by
      have : m * by' ≤ (j + m) * by' := Nat.mul_le_mul_right _ (by omega)
      rw [hby]; omega) (by rw [hby]; exact growslice_fits hc hlen)
    have hex : (execOp a.eval o).run P w = .ok (.value (slv w.heap.size (j + m) (grownCap w (j + m) cap e))) (w.drew.alloc (.cells ((xs.take (j * sz)).toArray ++ Builtin.zeroCells z.cells m ++ Builtin.zeroCells z.cells (grownCap w (j + m) cap e - (j + m))) e)) := by
      simp only [execOp, ho, resolve, invoke, builtin, Sem.run_bind, Sem.run_pure, Result.andThen_ok, List.map_toArray, List.map_cons, List.map_nil, e1, e2, hr]
    unfold Oper.wp
    rw [hex, Oper.upon_value, hd]
    have hge := grownCap_ge w (j + m) cap e
    have hcm2 : grownCap w (j + m) cap e ≤ maxLen := grownCap_le_maxLen w (j + m) cap e (by unfold maxLen; omega)
    have hl1 : (xs.take (j * sz)).length = j * sz := by rw [D9, hxl]; omega
    refine ⟨_, R, k _ _ hge, RSub.refl _, j4 (sz := sz) (m := j + m) (cap := grownCap w (j + m) cap e) (AB0 h1) (by simp; omega) hge hcm2 ?_ (fun x hx => ?_) ?_, Z3 h2 (RSub.refl _) (by rw [h3]; exact Nat.blt_eq.mp hn) rfl, by rw [V1]; exact h3, by rw [R9]; exact h4⟩
    · simp only [Array.size_append, List.size_toArray, size_zeroCells, hl1, hzs, ← Nat.add_mul]
      congr 1; omega
    · rcases List.mem_append.1 hx with hx | hx
      · exact hu x (List.mem_of_mem_take hx)
      · rw [(List.mem_replicate.1 hx).2]; simp [hzs]
    · have hsz3 : ((xs.take (j * sz)).toArray ++ Builtin.zeroCells z.cells m).toList.length = (j + m) * sz := by simp only [Array.length_toList, Array.size_append, List.size_toArray, size_zeroCells, hl1, hzs, Nat.add_mul]
      rw [Array.toList_append, List.take_left' hsz3, Array.toList_append, List.flatten_append]
      refine j3 ?_ (zero_den hzs h1z (by omega) m)
      rw [e8 j hu]
      exact ⟨by simp [hdc.1], fun i u x hu' hx => by
        by_cases hij : i < j * sz
        · simp only [List.getElem?_take_of_lt hij] at hu' hx; exact hdc.2 i u x hu' hx
        · rw [List.getElem?_eq_none (by simp; omega)] at hu'; cases hu'⟩
theorem Ay8 {f : FuncId} {fn : Func} {t e tb : TypeId} {p q : Operand} {tys : Array TypeId} {gv cv g len cap k m sz : Nat} {lv : Nat} {es vs : List (List AV)} (iv i : Nat) (ho : o.op = .call { callee := .value (.func f), args := #[p, q], argTypes := tys }) (hf : P.funcs[f]? = some fn) (hname : (fn.name == "runtime.NumGoroutine") = false) (hb : fn.body.isNone = true) (hnx : Extern.findNext fn = none) (he : Extern.find fn = some (Extern.SlicesOverlaps.overlaps #[t, t] #[tb]))
    (ht : P.underlying t = some (.slice e)) (hsz : ∀ w, (sizeOf e).run P w = .ok sz w) (hp : Ev E p (AV.is (slv gv lv cv))) (hq : Ev E q (AV.is (sliced (some ⟨g, 0, none⟩) k m cap sz))) (hiv : own[iv]? = some (.arr (slv gv lv cv) e sz vs)) (hi : own[i]? = some (.arr (slv g len cap) e sz es)) (hne : Nat.beq iv i = false) (hcap : 0 < cap) (hpos : Nat.ble 1 sz = true) :
    OpW P G n own o E (AV.bool false) := d5 fun w0 R0 R a w hcr hen => by
  have e1 : a.eval p = _ := K1 hp (by simp [ho, Op.operands, Call.operands]) hen
  have e2 : a.eval q = _ := K1 hq (by simp [ho, Op.operands, Call.operands]) hen
  have hb1 := Nat.le_of_ble_eq_true hpos
  have hij : iv ≠ i := fun h => by rw [h, Nat.beq_refl] at hne; cases hne
  obtain ⟨_, _, _, _, curv, xsv, hgv, hcv, _⟩ := y5 (hcr.owned _ (F9 hiv))
  obtain ⟨_, _, _, _, cur, xs, hg, hcs, _⟩ := y5 (hcr.owned _ (F9 hi))
  have hgne : gv ≠ g := fun h => AV9 hcr.sep hiv hi hij (b := gv) rfl (by rw [h]; rfl)
  obtain ⟨ad, lb, cb, hsl, hadb⟩ : ∃ ad lb cb, sliced (some ⟨g, 0, none⟩) k m cap sz = .slice (some ad) lb cb ∧ ad.block = g := by
    unfold sliced
    by_cases h : cap = k
    · exact ⟨_, _, _, by rw [if_pos h], rfl⟩
    · exact ⟨_, _, _, by rw [if_neg h, Option.map_some], by rw [g7]⟩
  rw [hsl] at e2
  have hkB : cap * sz ≠ 0 := Nat.mul_ne_zero (by omega) (by omega)
  have h3 := Lib.run_overlaps_apart (P := P) w t tb e ht sz hsz ⟨gv, 0, none⟩ ad lv cv lb cb (by rw [hadb]; exact hgne) e e curv.size cur.size (by simp [World.shape?, hgv]) (by simp [World.shape?, hadb, hg]) (by rw [hcs]; exact hkB) (by simp [World.frozen?, hgv]) (by simp [World.frozen?, hgv])
  have h4 := run_callFunc_extern (P := P) hf hname hb hnx he #[slv gv lv cv, .slice (some ad) lb cb] w
  rw [h3, Result.andThen_ok] at h4
  refine ⟨.bool false, ?_, rfl⟩
  simp only [execOp, ho, resolve, List.map_toArray, List.map_cons, List.map_nil, e1, e2, show a.eval (.func f) = .func (.func f) #[] #[] from rfl]
  simp [Deferred.ofValue, invoke, h4]
end
end Go.AV

namespace Go.AV
open Go.RowKit (Below)
section
variable {P : Program} {G : Nat → Prop} {n : Nat} {own : List Own} {o : Oper} {E : EnvF}
theorem R5 {ops : Array Oper} {t e : TypeId} {p q : Operand} {sz by' : Nat} {inf : TypeInfo} {z : Value} {v : Value} {es fs : List (List AV)} (i : Nat) (ho : o.op = .call { callee := .builtin .append, args := #[p, q], argTypes := #[t, t] }) (ht : P.underlying t = some (.slice e)) (hinf : P.info? e = some inf) (hz : inf.zero = some z) (hsz : inf.size = sz) (hby : inf.bytes = by') (hzs : z.cells.size = sz) (hpos : Nat.ble 1 sz = true) (hpos2 : Nat.ble 1 by' = true) (hp : Ev E p (AV.is v)) (hq : Ev E q (AV.list sz fs)) (hi : own[i]? = some (.arr v e sz es))
    (hlen : (es.length + fs.length) * by' ≤ 140737488355328) : OpE P G n own ops o E (fun _ : Value => True) (fun v' => own.set i (.arr v' e sz (es ++ fs))) (fun v' => AV.is v') :=
  fun w0 R0 R a w h1 h3 h2 => by
    have e1 : a.eval p = v := s5 (ops := ops) hp (by simp [ho, Op.operands, Call.operands]) h2
    obtain ⟨oa, c, e2, hc1, hc2, hu, hcell⟩ := s5 (ops := ops) hq (by simp [ho, Op.operands, Call.operands]) h2
    obtain ⟨hR, hue, xs, hown, hdc⟩ := h1.owned _ (F9 hi)
    have hb1 := Nat.le_of_ble_eq_true hpos
    have hb2 := Nat.le_of_ble_eq_true hpos2
    have hsum : es.length + fs.length ≤ 140737488355328 := Nat.le_trans (Nat.le_mul_of_pos_right _ hb2) hlen
    have hufs : ∀ x ∈ es ++ fs, x.length = sz := fun x hx => by
      rcases List.mem_append.1 hx with h | h
      · exact hue x h
      · exact hu x h
    by_cases hfs : fs = []
    · subst hfs
      have hrun : ∃ v', (Builtin.append_ #[t, t] o.type #[v, a.eval q]).run P w = .ok v' w ∧ v' = v := by
        refine ⟨v, ?_, rfl⟩
        rw [e2]
        rcases hown.2 with ⟨rfl, hz0⟩ | ⟨g, cap, cur, rfl, _, _, hnc, _⟩
        · cases oa with
          | none => simp [Builtin.append_, run_underlying ht, sizeOf, typeInfo, hinf, Builtin.lenOf, Builtin.firstCells, hz0]
          | some ad => simp [Builtin.append_, run_underlying ht, sizeOf, typeInfo, hinf, Builtin.lenOf, Builtin.firstCells, loadCells, loadCellsFrom, hz0]
        · cases oa with
          | none => simp [Builtin.append_, run_underlying ht, sizeOf, typeInfo, hinf, Builtin.lenOf, Builtin.firstCells, hnc, storeCells]
          | some ad => simp [Builtin.append_, run_underlying ht, sizeOf, typeInfo, hinf, Builtin.lenOf, Builtin.firstCells, loadCells, loadCellsFrom, hnc, storeCells]
      obtain ⟨v', hr, rfl⟩ := hrun
      have hex : (execOp a.eval o).run P w = .ok (.value v') w := by
        simp only [execOp, ho, resolve, invoke, builtin, Sem.run_bind, Sem.run_pure, Result.andThen_ok, List.map_toArray, List.map_cons, List.map_nil, e1, hr]
      unfold Oper.wp
      rw [hex, Oper.upon_value]
      have hset : own.set i (.arr v' e sz (es ++ [])) = own := by
        rw [List.append_nil]
        obtain ⟨hlt, he⟩ := List.getElem?_eq_some_iff.1 hi
        rw [← he]; exact List.set_getElem_self hlt
      exact ⟨v', v', R, trivial, rfl, by show Core G w0 R0 (own.set i (.arr v' e sz (es ++ []))) R w; rw [hset]; exact h1, RSub.refl _, rfl⟩
    · obtain ⟨ad, rfl, hca⟩ := hcell hfs
      obtain ⟨ns, hn1, hn2, hn3⟩ := Ad4 (sz := sz) h1.rle hca
      have hnl : ns.length = fs.length * sz := by rw [hn1, V6 hu]
      have hone : ∀ u ∈ ns, u.oneCell' = true := fun u hm => by
        obtain ⟨j, hj⟩ := List.getElem?_of_mem hm
        have hjl : j < fs.flatten.length := by rw [← hn1]; exact (List.getElem?_eq_some_iff.1 hj).1
        exact (hn3.2 j u _ hj (List.getElem?_eq_getElem hjl)).2
      obtain ⟨v', w', hr, hown', hgr, _, hblk⟩ := run_append_own_at (P := P) w 0 t o.type e inf z sz by' ht hinf hz hsz hby hzs hb1 v es.length xs hown ad fs.length c ns hnl hn2 hone (by unfold maxLen; omega) hlen (Nat.zero_le _)
      have hex : (execOp a.eval o).run P w = .ok (.value v') w' := by
        simp only [execOp, ho, resolve, invoke, builtin, Sem.run_bind, Sem.run_pure, Result.andThen_ok, List.map_toArray, List.map_cons, List.map_nil, e1, e2, hr]
      unfold Oper.wp
      rw [hex, Oper.upon_value]
      refine ⟨v', v', R, trivial, rfl, AB4 h1 hi (fun b hb => ?_) ⟨fun b hb => ?_, hufs, xs ++ ns, ?_, ?_⟩ hgr, RSub.refl _, rfl⟩
      · simp only [Own.blk] at hb ⊢
        rcases hblk with h | h
        · exact .inl (by rw [← h]; exact hb)
        · rw [hb] at h; injection h with h; exact .inr h
      · rcases hblk with h | h
        · exact hR b (by rw [← h]; exact hb)
        · rw [hb] at h; injection h with h; subst h; exact w8 h1.rle
      · rw [J6]; exact hown'
      · rw [List.flatten_append]; exact j3 hdc hn3

theorem Z6 {ops : Array Oper} {t e : TypeId} {sz : Nat} (ho : o.op = .buildSlice t 0 #[]) (ht : P.underlying t = some (.slice e)) (hs : ∀ w, (sizeOf e).run P w = .ok sz w)
    : OpE P G n own ops o E (fun _ : Value => True) (fun v' => own ++ [.arr v' e sz []]) (fun v' => AV.is v') :=
  fun w0 R0 R a w h1 h3 h2 => by
    have hex : (execOp a.eval o).run P w = .ok (.value (.slice (some ⟨w.heap.size, 0, none⟩) 0 0)) (w.alloc (.cells #[] e)) := by
      simp [execOp, ho, Instr.buildSlice, run_underlying ht, hs, newRow, Instr.fill, go_sem]
    unfold Oper.wp
    rw [hex, Oper.upon_value]
    exact ⟨_, _, R, trivial, rfl, Z4 (j4 h1 rfl (Nat.le_refl _) (Nat.zero_le _) (by simp) (fun x hx => by simp at hx) ⟨by simp, fun i v x h => by simp at h⟩) (List.perm_append_comm (l₁ := [_])), RSub.refl _, rfl⟩

theorem AN3 {ops : Array Oper} {t e : TypeId} {len sz : Nat} {z : Value} {ps : Array (Nat × Operand)} {asl : List (Nat × List AV)} {cs : List AV} {es : List (List AV)} (ho : o.op = .buildSlice t len ps) (ht : P.underlying t = some (.slice e)) (hsz : ∀ w, (sizeOf e).run P w = .ok sz w) (hz : ∀ w, (zeroValue e).run P w = .ok z w)
    (hl : Nat.ble (len * sz) 1000 = true) (hl2 : Nat.ble len 1000 = true) (hzs : z.cells.size = sz) (h1' : z.cells.toList.all Value.oneCell' = true) (hp : EvP E ps.toList asl) (hc : afill (fun i => some (i * sz, sz)) ((List.range (len * sz)).map fun i => zeroA (z.cells[i % z.cells.size]!)) asl = some cs) (hes : chunks sz len cs = es)
    : OpE P G n own ops o E (fun _ : Value => True) (fun v' => own ++ [.arr v' e sz es]) (fun v' => AV.is v') :=
  fun w0 R0 R a w h1 h3 h2 => by
    obtain ⟨k1, k2⟩ := AJ5 (o := o) (fun t ht => h2 t (n3 ht)) hp fun p hpm => by simp [ho, Op.operands]; exact ⟨p.1, by simpa using hpm⟩
    have hone : ∀ i, i < len * sz → (z.cells[i % z.cells.size]!).oneCell' = true := fun i hi => by
      have hpos : 0 < z.cells.size := by
        rw [hzs]
        rcases Nat.eq_zero_or_pos sz with h0 | h0
        · subst h0; simp at hi
        · exact h0
      rw [getElem!_pos z.cells _ (Nat.mod_lt _ hpos)]
      exact List.all_eq_true.1 h1' _ (by simp)
    obtain ⟨cells', f2, f3⟩ := AE5 (R := R) (place := fun i => some (i * sz, sz)) _ asl ((Array.range (len * sz)).map fun i => z.cells[i % z.cells.size]!) _ cs ⟨by simp, fun i v y hv hy => by
      rw [Array.toList_map, List.getElem?_map, Array.toList_range] at hv
      rw [List.getElem?_map] at hy
      by_cases hi : i < len * sz
      · rw [List.getElem?_range hi] at hv hy
        simp only [Option.map_some, Option.some.injEq] at hv hy
        rw [← hv, ← hy]
        exact ⟨i5 R _, hone i hi⟩
      · rw [List.getElem?_eq_none (by simp; omega)] at hv; cases hv⟩ k1 k2 hc
    have hlen := Nat.le_of_ble_eq_true hl
    have h5 : cells'.toList.length = len * sz := by
      rw [f3.1, AR7 asl _ cs hc]; simp
    have hch := AA8 sz len cs (by rw [← f3.1]; exact h5)
    have h6 : (ps.map fun (i, x) => (i, a.eval x)).toList = ps.toList.map fun p => (p.1, a.eval p.2) := by simp
    have hrun : (execOp a.eval o).run P w = .ok (.value (.slice (some ⟨w.heap.size, 0, none⟩) len len)) (w.alloc (.cells cells' e)) := by
      have hcap : ¬ (len * sz > 2 ^ 24) := by omega
      by_cases h0 : len * sz = 0
      · have h7 : (Array.range (len * sz)).map (fun x => (#[] : Array Value)[x % (#[] : Array Value).size]!) = (Array.range (len * sz)).map fun i => z.cells[i % z.cells.size]! := by rw [h0]; simp
        rw [← h7] at f2
        simp only [execOp, ho, Instr.buildSlice, run_underlying ht, hsz, hcap, if_false, Sem.run_bind, Sem.run_pure, Result.andThen_ok, Sem.run_ite, if_pos h0, h6, f2, newRow, run_newObj, World.alloc_eq]
      · simp only [execOp, ho, Instr.buildSlice, run_underlying ht, hsz, hcap, if_false, Sem.run_bind, Sem.run_pure, Result.andThen_ok, Sem.run_ite, if_neg h0, hz, h6, f2, newRow, run_newObj, World.alloc_eq]
    unfold Oper.wp
    rw [hrun, Oper.upon_value]
    have hlz : es.length = len := by rw [← hes, A7]
    refine ⟨_, _, R, trivial, rfl, Z4 (j4 (sz := sz) (m := len) (cap := len) (es := es) h1 hlz (Nat.le_refl _) (by have := Nat.le_of_ble_eq_true hl2; unfold maxLen; omega) (by rw [← Array.length_toList]; exact h5) (by rw [← hes]; exact hch.2) ?_) (List.perm_append_comm (l₁ := [_])), RSub.refl _, rfl⟩
    rw [List.take_of_length_le (by rw [h5]; exact Nat.le_refl _), ← hes, hch.1]
    exact f3
theorem Ad6 {ops : Array Oper} {rest : List Oper} {env : List (Nat × AV)} {K : AState → Prop} {t e : TypeId} {p q : Operand} {d sz by' : Nat} {inf : TypeInfo} {z : Value} {v : Value} {es fs : List (List AV)} (i : Nat) (hg : o.guard = none) (ho : o.op = .call { callee := .builtin .append, args := #[p, q], argTypes := #[t, t] }) (hd : o.dst = some d) (hn : Nat.blt d n = true)
    (ht : P.underlying t = some (.slice e)) (hinf : P.info? e = some inf) (hz : inf.zero = some z) (hsz : inf.size = sz) (hby : inf.bytes = by') (hzs : z.cells.size = sz) (hpos : Nat.ble 1 sz = true) (hpos2 : Nat.ble 1 by' = true) (hp : Ev (getv · env) p (AV.is v)) (hq : SrcIs own (getv · env) q sz fs) (hne : fs ≠ []) (hi : own[i]? = some (.arr v e sz es))
    (hlen : (es.length + fs.length) * by' ≤ 140737488355328) (k : ∀ v', ASeq P G n ops rest ⟨own.set i (.arr v' e sz (es ++ fs)), (d, AV.is v') :: env⟩ K) : ASeq P G n ops (o :: rest) ⟨own, env⟩ K :=
  X9 hg fun w0 R0 R a w ⟨h1, h2, h3, h4⟩ => by
    have e1 : a.eval p = v := d3 (s := ⟨own, env⟩) (o := o) hp h2
    obtain ⟨hu, hsrc⟩ := hq G w0 R0 R a w h1 (fun t _ y hy => h2 t y hy)
    obtain ⟨ad, c, ns, e2, hn2, hn3⟩ := hsrc hne
    obtain ⟨hR, hue, xs, hown, hdc⟩ := h1.owned _ (F9 hi)
    have hb1 := Nat.le_of_ble_eq_true hpos
    have hb2 := Nat.le_of_ble_eq_true hpos2
    have hsum : es.length + fs.length ≤ 140737488355328 := Nat.le_trans (Nat.le_mul_of_pos_right _ hb2) hlen
    have hufs : ∀ x ∈ es ++ fs, x.length = sz := fun x hx => by
      rcases List.mem_append.1 hx with h | h
      · exact hue x h
      · exact hu x h
    have hnl : ns.length = fs.length * sz := by rw [hn3.1, V6 hu]
    have hone : ∀ u ∈ ns, u.oneCell' = true := fun u hm => by
      obtain ⟨j, hj⟩ := List.getElem?_of_mem hm
      have hjl : j < fs.flatten.length := by rw [← hn3.1]; exact (List.getElem?_eq_some_iff.1 hj).1
      exact (hn3.2 j u _ hj (List.getElem?_eq_getElem hjl)).2
    obtain ⟨v', w', hr, hown', hgr, _, hblk⟩ := run_append_own_at (P := P) w 0 t o.type e inf z sz by' ht hinf hz hsz hby hzs hb1 v es.length xs hown ad fs.length c ns hnl hn2 hone (by unfold maxLen; omega) hlen (Nat.zero_le _)
    have hex : (execOp a.eval o).run P w = .ok (.value v') w' := by
      simp only [execOp, ho, resolve, invoke, builtin, Sem.run_bind, Sem.run_pure, Result.andThen_ok, List.map_toArray, List.map_cons, List.map_nil, e1, e2, hr]
    unfold Oper.wp
    rw [hex, Oper.upon_value, hd]
    refine ⟨_, R, k v', RSub.refl _, AB4 h1 hi (fun b hb => ?_) ⟨fun b hb => ?_, hufs, xs ++ ns, ?_, ?_⟩ hgr, Z3 h2 (RSub.refl _) (by rw [h3]; exact Nat.blt_eq.mp hn) rfl, by rw [V1]; exact h3, by rw [R9]; exact h4⟩
    · simp only [Own.blk] at hb ⊢
      rcases hblk with h | h
      · exact .inl (by rw [← h]; exact hb)
      · rw [hb] at h; injection h with h; exact .inr h
    · rcases hblk with h | h
      · exact hR b (by rw [← h]; exact hb)
      · rw [hb] at h; injection h with h; subst h; exact w8 h1.rle
    · rw [J6]; exact hown'
    · rw [List.flatten_append]; exact j3 hdc hn3
end
end Go.AV

namespace Go.M
open Go.AV
abbrev Str := List UInt8
@[reducible] def strs (l : List Str) : AV := AV.list 1 (l.map fun s => [AV.str s])
@[reducible] def ints (l : List Int) : AV := AV.list 1 (l.map fun s => [AV.int s])
def sizeL {α : Type} (f : α → Nat) (l : List α) : Nat := l.length + (l.map f).sum
def szR (n : Nat) (left : Int) : Int := if left < n then -1 else left - n
theorem sum_le {α : Type} (f : α → Nat) : ∀ (l : List α) (i : Nat) (x : α), l[i]? = some x → ((l.take i).map f).sum + f x ≤ (l.map f).sum
  | [], i, x, h => by simp at h
  | y :: l, 0, x, h => by simp at h; subst h; simp
  | y :: l, i + 1, x, h => by
    have := sum_le f l i x (by simpa using h)
    simp only [S5, List.map_cons, List.sum_cons]; omega
theorem o7 {α : Type} {f : α → Nat} {l : List α} {x : α} (h : x ∈ l) : f x ≤ sizeL f l := by
  obtain ⟨i, hi⟩ := List.getElem?_of_mem h
  have := sum_le f l i x hi
  unfold sizeL; omega
theorem O4 {α : Type} {f : α → Nat} {l : List α} : l.length ≤ sizeL f l := by unfold sizeL; omega
theorem Y5 {α : Type} {f : α → Nat} {l : List α} {i : Nat} {x : α} (h : l[i]? = some x) : f x ≤ sizeL f l := o7 (F9 h)
theorem i4 {α : Type} {a b : List α} {i : Nat} (hl : a.length = b.length) (h : a.take i = b.take i) (hi : a.length ≤ i) : a = b := by
  rwa [List.take_of_length_le hi, List.take_of_length_le (by omega)] at h
theorem Z9 {α : Type} {a b : List α} {i : Nat} {x : α} (h : a.take i = b.take i) (ha : a[i]? = some x) (hb : b[i]? = some x) : a.take (i + 1) = b.take (i + 1) := by
  rw [List.take_add_one, List.take_add_one, h, ha, hb]
theorem y6 {α : Type} [Inhabited α] (l : List α) (i : Nat) : ∃ y, i < l.length → l[i]? = some y := ⟨l[i]?.getD default, fun h => by rw [List.getElem?_eq_getElem h]; rfl⟩
def bs {α : Type} (f : α → Int) (l : List α) (i j : Nat) : Nat :=
  if i < j then
    match l[(i + j) / 2]? with
    | some x => if f x < 0 then bs f l ((i + j) / 2 + 1) j else bs f l i ((i + j) / 2)
    | none => i
  else i
termination_by j - i
def bsAt {α : Type} (f : α → Int) (l : List α) (n : Nat) : Bool :=
  match l[n]? with
  | some x => f x == 0
  | none => false
theorem Ad7 {α : Type} {f : α → Int} {l : List α} {i j : Nat} {x : α} (h : i < j) (hx : l[(i + j) / 2]? = some x) (hf : f x < 0) : bs f l i j = bs f l ((i + j) / 2 + 1) j := by
  rw [bs, if_pos h, hx]; simp only [hf, if_true]
theorem Ad8 {α : Type} {f : α → Int} {l : List α} {i j : Nat} {x : α} (h : i < j) (hx : l[(i + j) / 2]? = some x) (hf : ¬ f x < 0) : bs f l i j = bs f l i ((i + j) / 2) := by
  rw [bs, if_pos h, hx]; simp only [hf, if_false]
theorem AR9 {α : Type} {f : α → Int} {l : List α} {i j : Nat} (h : ¬ i < j) : bs f l i j = i := by rw [bs, if_neg h]
theorem Ah1 {i j : Nat} (h : i + j ≤ 9223372036854775807) : IntKind.i64.wrap (IntKind.u64.wrap ((i : Int) + (j : Int)) / 2 ^ ((1 : Int).toNat)) = ((i + j) / 2 : Nat) := by
  have h1 : IntKind.u64.wrap ((i : Int) + (j : Int)) = (i : Int) + (j : Int) := by simp only [IntKind.wrap, IntKind.bits, IntKind.signed]; simp; omega
  rw [h1]
  have h2 : ((i : Int) + (j : Int)) / 2 ^ ((1 : Int).toNat) = (((i + j) / 2 : Nat) : Int) := by
    show ((i : Int) + (j : Int)) / 2 = _
    omega
  rw [h2]
  exact in64 (by omega)
def idxFrom {α : Type} (p : α → Bool) : List α → Int → Int
  | [], _ => -1
  | x :: xs, k => if p x then k else idxFrom p xs (k + 1)
theorem n9 {α : Type} (p : α → Bool) : ∀ (l : List α) (k : Int), 0 ≤ k → decide (0 ≤ idxFrom p l k) = l.any p
  | [], _, _ => rfl
  | x :: xs, k, h => by
    unfold idxFrom
    cases hp : p x with
    | true => simp [hp]; exact h
    | false => simp [hp, n9 p xs (k + 1) (by omega)]
theorem AN4 {α β : Type} {f : α → β} {l : List α} {x : α} {i : Nat} {Z : List β} (hi : i ≤ l.length) (hZ : Z.length = l.length + 1 - i) : (l.take i ++ x :: l.drop i).map f =
    ((((l.map f).take i ++ Z).take i ++ [f x] ++ ((l.map f).take i ++ Z).drop (i + [f x].length)).take (i + 1) ++ (l.map f).drop i ++ (((l.map f).take i ++ Z).take i ++ [f x] ++ ((l.map f).take i ++ Z).drop (i + [f x].length)).drop (i + 1 + ((l.map f).drop i).length)) := by
  have h1 : ((l.map f).take i).length = i := by simp; omega
  have hA : ((l.map f).take i ++ Z).take i = (l.map f).take i := List.take_left' h1
  have h2 : ((l.map f).take i ++ [f x]).length = i + 1 := by simp; omega
  rw [hA, List.take_left' h2]
  have hB : ((l.map f).take i ++ [f x] ++ ((l.map f).take i ++ Z).drop (i + [f x].length)).length ≤ i + 1 + ((l.map f).drop i).length := by
    simp only [J6, D9, A8, I5, N4, List.length_drop, hZ]; omega
  rw [List.drop_eq_nil_of_le hB]
  simp [List.map_take, List.map_drop]
theorem AG4 {α β : Type} {f : α → β} {l : List α} {x : α} {i : Nat} (hi : i < l.length) : (l.take i ++ x :: l.drop i).map f =
    ((l.map f).take (i + 1) ++ (l.map f).drop i).take i ++ [f x] ++ ((l.map f).take (i + 1) ++ (l.map f).drop i).drop (i + [f x].length) := by
  have h1 : ((l.map f).take (i + 1)).length = i + 1 := by simp; omega
  rw [List.take_append_of_le_length (by omega), List.take_take, Nat.min_eq_left (by omega), show i + [f x].length = i + 1 from rfl, List.drop_left' h1]
  simp [List.map_take, List.map_drop]
structure TClock where
  Off : Int
deriving DecidableEq, Inhabited
def TClock.cs (c : TClock) : List AV := [AV.int c.Off]
theorem TClock.flat (c : TClock) : ∀ x ∈ c.cs, Flat x := (D8 (G7 _ _) H0)
def TClock.size (c : TClock) : Nat := 0
structure TLease where
  Who : Int
  From : Int
  Until : Int
deriving DecidableEq, Inhabited
def TLease.cs (c : TLease) : List AV := [AV.int c.Who, AV.int c.From, AV.int c.Until]
theorem TLease.flat (c : TLease) : ∀ x ∈ c.cs, Flat x := (D8 (G7 _ _) (D8 (G7 _ _) (D8 (G7 _ _) H0)))
def TLease.size (c : TLease) : Nat := 0
structure TWatch where
  True : Int
  Clocks : List TClock
  Given : List TLease
deriving DecidableEq, Inhabited
def TWatch.cs (c : TWatch) : List AV := [AV.int c.True, AV.list 1 (c.Clocks.map TClock.cs), AV.list 3 (c.Given.map TLease.cs)]
def TWatch.size (c : TWatch) : Nat := c.Clocks.length + c.Given.length
structure TWatchAct where
  Kind : Int
  Who : Int
  By : Int
deriving DecidableEq, Inhabited
def TWatchAct.cs (c : TWatchAct) : List AV := [AV.int c.Kind, AV.int c.Who, AV.int c.By]
theorem TWatchAct.flat (c : TWatchAct) : ∀ x ∈ c.cs, Flat x := (D8 (G7 _ _) (D8 (G7 _ _) (D8 (G7 _ _) H0)))
def TWatchAct.size (c : TWatchAct) : Nat := 0
structure TWrite where
  Key : Str
  Val : Str
  Gone : Bool
deriving DecidableEq, Inhabited
def TWrite.cs (c : TWrite) : List AV := [AV.str c.Key, AV.str c.Val, AV.bool c.Gone]
theorem TWrite.flat (c : TWrite) : ∀ x ∈ c.cs, Flat x := (D8 (I6 _) (D8 (I6 _) (D8 (H2 _) H0)))
def TWrite.size (c : TWrite) : Nat := c.Key.length + c.Val.length
def TWrite.ok (c : TWrite) : Prop := c.Key.length ≤ 9223372036854775807 ∧ c.Val.length ≤ 9223372036854775807
structure TRec where
  Kind : Int
  Txn : Int
  Time : Int
  Lead : Int
  Reads : List Str
  Writes : List TWrite
  Yes : Bool
deriving DecidableEq, Inhabited
def TRec.cs (c : TRec) : List AV := [AV.int c.Kind, AV.int c.Txn, AV.int c.Time, AV.int c.Lead, strs c.Reads, AV.list 3 (c.Writes.map TWrite.cs), AV.bool c.Yes]
def TRec.size (c : TRec) : Nat := sizeL (fun x => x.length) c.Reads + sizeL TWrite.size c.Writes
def TRec.ok (c : TRec) : Prop := (∀ x ∈ c.Reads, x.length ≤ 9223372036854775807) ∧ (∀ x ∈ c.Writes, x.ok)
structure TEntry where
  Term : Int
  Rec : TRec
deriving DecidableEq, Inhabited
def TEntry.cs (c : TEntry) : List AV := [AV.int c.Term, AV.int c.Rec.Kind, AV.int c.Rec.Txn, AV.int c.Rec.Time, AV.int c.Rec.Lead, strs c.Rec.Reads, AV.list 3 (c.Rec.Writes.map TWrite.cs), AV.bool c.Rec.Yes]
def TEntry.size (c : TEntry) : Nat := c.Rec.size
def TEntry.ok (c : TEntry) : Prop := c.Rec.ok
structure TDisk where
  Kept : Str
  Loose : Str
deriving DecidableEq, Inhabited
def TDisk.cs (c : TDisk) : List AV := [AV.str c.Kept, AV.str c.Loose]
theorem TDisk.flat (c : TDisk) : ∀ x ∈ c.cs, Flat x := (D8 (I6 _) (D8 (I6 _) H0))
def TDisk.size (c : TDisk) : Nat := c.Kept.length + c.Loose.length
def TDisk.ok (c : TDisk) : Prop := c.Kept.length ≤ 9223372036854775807 ∧ c.Loose.length ≤ 9223372036854775807
structure TReplica where
  Up : Bool
  Log : List TEntry
  Sure : Int
deriving DecidableEq, Inhabited
def TReplica.cs (c : TReplica) : List AV := [AV.bool c.Up, AV.list 8 (c.Log.map TEntry.cs), AV.int c.Sure]
def TReplica.size (c : TReplica) : Nat := sizeL TEntry.size c.Log
def TReplica.ok (c : TReplica) : Prop := (∀ x ∈ c.Log, x.ok)
structure TGroup where
  Reps : List TReplica
  Term : Int
  Lead : Int
deriving DecidableEq, Inhabited
def TGroup.cs (c : TGroup) : List AV := [AV.list 3 (c.Reps.map TReplica.cs), AV.int c.Term, AV.int c.Lead]
def TGroup.size (c : TGroup) : Nat := sizeL TReplica.size c.Reps
def TGroup.ok (c : TGroup) : Prop := (∀ x ∈ c.Reps, x.ok)
structure THouse where
  Group : TGroup
  Disks : List TDisk
deriving DecidableEq, Inhabited
def THouse.cs (c : THouse) : List AV := [AV.list 3 (c.Group.Reps.map TReplica.cs), AV.int c.Group.Term, AV.int c.Group.Lead, AV.list 2 (c.Disks.map TDisk.cs)]
def THouse.size (c : THouse) : Nat := c.Group.size + sizeL TDisk.size c.Disks
def THouse.ok (c : THouse) : Prop := c.Group.ok ∧ (∀ x ∈ c.Disks, x.ok)
structure TGroupAct where
  Kind : Int
  Rep : Int
  Rec : TRec
deriving DecidableEq, Inhabited
def TGroupAct.cs (c : TGroupAct) : List AV := [AV.int c.Kind, AV.int c.Rep, AV.int c.Rec.Kind, AV.int c.Rec.Txn, AV.int c.Rec.Time, AV.int c.Rec.Lead, strs c.Rec.Reads, AV.list 3 (c.Rec.Writes.map TWrite.cs), AV.bool c.Rec.Yes]
def TGroupAct.size (c : TGroupAct) : Nat := c.Rec.size
def TGroupAct.ok (c : TGroupAct) : Prop := c.Rec.ok
structure THouseAct where
  Kind : Int
  Rep : Int
  Rec : TRec
  Keep : Int
  Torn : Bool
deriving DecidableEq, Inhabited
def THouseAct.cs (c : THouseAct) : List AV := [AV.int c.Kind, AV.int c.Rep, AV.int c.Rec.Kind, AV.int c.Rec.Txn, AV.int c.Rec.Time, AV.int c.Rec.Lead, strs c.Rec.Reads, AV.list 3 (c.Rec.Writes.map TWrite.cs), AV.bool c.Rec.Yes, AV.int c.Keep, AV.bool c.Torn]
def THouseAct.size (c : THouseAct) : Nat := c.Rec.size
def THouseAct.ok (c : THouseAct) : Prop := c.Rec.ok
structure TLock where
  Key : Str
  Txn : Int
  Write : Bool
deriving DecidableEq, Inhabited
def TLock.cs (c : TLock) : List AV := [AV.str c.Key, AV.int c.Txn, AV.bool c.Write]
theorem TLock.flat (c : TLock) : ∀ x ∈ c.cs, Flat x := (D8 (I6 _) (D8 (G7 _ _) (D8 (H2 _) H0)))
def TLock.size (c : TLock) : Nat := c.Key.length
def TLock.ok (c : TLock) : Prop := c.Key.length ≤ 9223372036854775807
structure TVer where
  Time : Int
  Val : Str
  Gone : Bool
deriving DecidableEq, Inhabited
def TVer.cs (c : TVer) : List AV := [AV.int c.Time, AV.str c.Val, AV.bool c.Gone]
theorem TVer.flat (c : TVer) : ∀ x ∈ c.cs, Flat x := (D8 (G7 _ _) (D8 (I6 _) (D8 (H2 _) H0)))
def TVer.size (c : TVer) : Nat := c.Val.length
def TVer.ok (c : TVer) : Prop := c.Val.length ≤ 9223372036854775807
structure TCell where
  Key : Str
  Vers : List TVer
deriving DecidableEq, Inhabited
def TCell.cs (c : TCell) : List AV := [AV.str c.Key, AV.list 3 (c.Vers.map TVer.cs)]
def TCell.size (c : TCell) : Nat := c.Key.length + sizeL TVer.size c.Vers
def TCell.ok (c : TCell) : Prop := c.Key.length ≤ 9223372036854775807 ∧ (∀ x ∈ c.Vers, x.ok)
structure THeld where
  Txn : Int
  Time : Int
  Lead : Int
  Reads : List Str
  Writes : List TWrite
deriving DecidableEq, Inhabited
def THeld.cs (c : THeld) : List AV := [AV.int c.Txn, AV.int c.Time, AV.int c.Lead, strs c.Reads, AV.list 3 (c.Writes.map TWrite.cs)]
def THeld.size (c : THeld) : Nat := sizeL (fun x => x.length) c.Reads + sizeL TWrite.size c.Writes
def THeld.ok (c : THeld) : Prop := (∀ x ∈ c.Reads, x.length ≤ 9223372036854775807) ∧ (∀ x ∈ c.Writes, x.ok)
structure TTold where
  Txn : Int
  Yes : Bool
  Time : Int
deriving DecidableEq, Inhabited
def TTold.cs (c : TTold) : List AV := [AV.int c.Txn, AV.bool c.Yes, AV.int c.Time]
theorem TTold.flat (c : TTold) : ∀ x ∈ c.cs, Flat x := (D8 (G7 _ _) (D8 (H2 _) (D8 (G7 _ _) H0)))
def TTold.size (c : TTold) : Nat := 0
structure TState where
  Floor : Int
  Cells : List TCell
  Held : List THeld
  Told : List TTold
deriving DecidableEq, Inhabited
def TState.cs (c : TState) : List AV := [AV.int c.Floor, AV.list 2 (c.Cells.map TCell.cs), AV.list 5 (c.Held.map THeld.cs), AV.list 3 (c.Told.map TTold.cs)]
def TState.size (c : TState) : Nat := sizeL TCell.size c.Cells + sizeL THeld.size c.Held + c.Told.length
def TState.ok (c : TState) : Prop := (∀ x ∈ c.Cells, x.ok) ∧ (∀ x ∈ c.Held, x.ok)
structure TSpan where
  Low : Int
  High : Int
deriving DecidableEq, Inhabited
def TSpan.cs (c : TSpan) : List AV := [AV.int c.Low, AV.int c.High]
theorem TSpan.flat (c : TSpan) : ∀ x ∈ c.cs, Flat x := (D8 (G7 _ _) (D8 (G7 _ _) H0))
def TSpan.size (c : TSpan) : Nat := 0
structure TOrder where
  Txn : Int
  Reads : List Str
  Writes : List TWrite
deriving DecidableEq, Inhabited
def TOrder.cs (c : TOrder) : List AV := [AV.int c.Txn, strs c.Reads, AV.list 3 (c.Writes.map TWrite.cs)]
def TOrder.size (c : TOrder) : Nat := sizeL (fun x => x.length) c.Reads + sizeL TWrite.size c.Writes
def TOrder.ok (c : TOrder) : Prop := (∀ x ∈ c.Reads, x.length ≤ 9223372036854775807) ∧ (∀ x ∈ c.Writes, x.ok)
structure TDeal where
  Cuts : List Str
  States : List TState
  Orders : List TOrder
deriving DecidableEq, Inhabited
def TDeal.cs (c : TDeal) : List AV := [strs c.Cuts, AV.list 4 (c.States.map TState.cs), AV.list 3 (c.Orders.map TOrder.cs)]
def TDeal.size (c : TDeal) : Nat := sizeL (fun x => x.length) c.Cuts + sizeL TState.size c.States + sizeL TOrder.size c.Orders
def TDeal.ok (c : TDeal) : Prop := (∀ x ∈ c.Cuts, x.length ≤ 9223372036854775807) ∧ (∀ x ∈ c.States, x.ok) ∧ (∀ x ∈ c.Orders, x.ok)
structure TDealAct where
  Kind : Int
  Txn : Int
  Part : Int
  Time : Int
deriving DecidableEq, Inhabited
def TDealAct.cs (c : TDealAct) : List AV := [AV.int c.Kind, AV.int c.Txn, AV.int c.Part, AV.int c.Time]
theorem TDealAct.flat (c : TDealAct) : ∀ x ∈ c.cs, Flat x := (D8 (G7 _ _) (D8 (G7 _ _) (D8 (G7 _ _) (D8 (G7 _ _) H0))))
def TDealAct.size (c : TDealAct) : Nat := 0
structure TOp where
  Kind : Int
  Key : Str
  Val : Str
  By : Int
deriving DecidableEq, Inhabited
def TOp.cs (c : TOp) : List AV := [AV.int c.Kind, AV.str c.Key, AV.str c.Val, AV.int c.By]
theorem TOp.flat (c : TOp) : ∀ x ∈ c.cs, Flat x := (D8 (G7 _ _) (D8 (I6 _) (D8 (I6 _) (D8 (G7 _ _) H0))))
def TOp.size (c : TOp) : Nat := c.Key.length + c.Val.length
def TOp.ok (c : TOp) : Prop := c.Key.length ≤ 9223372036854775807 ∧ c.Val.length ≤ 9223372036854775807
structure TGot where
  Key : Str
  Val : Str
  There : Bool
deriving DecidableEq, Inhabited
def TGot.cs (c : TGot) : List AV := [AV.str c.Key, AV.str c.Val, AV.bool c.There]
theorem TGot.flat (c : TGot) : ∀ x ∈ c.cs, Flat x := (D8 (I6 _) (D8 (I6 _) (D8 (H2 _) H0)))
def TGot.size (c : TGot) : Nat := c.Key.length + c.Val.length
def TGot.ok (c : TGot) : Prop := c.Key.length ≤ 9223372036854775807 ∧ c.Val.length ≤ 9223372036854775807
structure TWorldTxn where
  Ops : List TOp
  Got : List TGot
  Terms : List Int
  Begin : Int
  End : Int
  Yes : Bool
  Time : Int
  Dead : Bool
  Put : Bool
  Stopped : Bool
deriving DecidableEq, Inhabited
def TWorldTxn.cs (c : TWorldTxn) : List AV := [AV.list 4 (c.Ops.map TOp.cs), AV.list 3 (c.Got.map TGot.cs), ints c.Terms, AV.int c.Begin, AV.int c.End, AV.bool c.Yes, AV.int c.Time, AV.bool c.Dead, AV.bool c.Put, AV.bool c.Stopped]
def TWorldTxn.size (c : TWorldTxn) : Nat := sizeL TOp.size c.Ops + sizeL TGot.size c.Got + c.Terms.length
def TWorldTxn.ok (c : TWorldTxn) : Prop := (∀ x ∈ c.Ops, x.ok) ∧ (∀ x ∈ c.Got, x.ok)
structure TWorldLook where
  Node : Int
  Keys : List Str
  Got : List TGot
  Time : Int
  Begin : Int
  End : Int
deriving DecidableEq, Inhabited
def TWorldLook.cs (c : TWorldLook) : List AV := [AV.int c.Node, strs c.Keys, AV.list 3 (c.Got.map TGot.cs), AV.int c.Time, AV.int c.Begin, AV.int c.End]
def TWorldLook.size (c : TWorldLook) : Nat := sizeL (fun x => x.length) c.Keys + sizeL TGot.size c.Got
def TWorldLook.ok (c : TWorldLook) : Prop := (∀ x ∈ c.Keys, x.length ≤ 9223372036854775807) ∧ (∀ x ∈ c.Got, x.ok)
structure TWorld where
  Now : Int
  Count : Int
  Clocks : List TClock
  Cuts : List Str
  Groups : List TGroup
  Locks : List (List TLock)
  Promised : List Int
  Txns : List TWorldTxn
  Looks : List TWorldLook
deriving DecidableEq, Inhabited
def TWorld.cs (c : TWorld) : List AV := [AV.int c.Now, AV.int c.Count, AV.list 1 (c.Clocks.map TClock.cs), strs c.Cuts, AV.list 3 (c.Groups.map TGroup.cs), AV.list 1 (c.Locks.map fun x => [AV.list 3 (x.map TLock.cs)]), ints c.Promised, AV.list 10 (c.Txns.map TWorldTxn.cs), AV.list 6 (c.Looks.map TWorldLook.cs)]
def TWorld.size (c : TWorld) : Nat := c.Clocks.length + sizeL (fun x => x.length) c.Cuts + sizeL TGroup.size c.Groups + sizeL (fun x => sizeL TLock.size x) c.Locks + c.Promised.length + sizeL TWorldTxn.size c.Txns + sizeL TWorldLook.size c.Looks
def TWorld.ok (c : TWorld) : Prop := (∀ x ∈ c.Cuts, x.length ≤ 9223372036854775807) ∧ (∀ x ∈ c.Groups, x.ok) ∧ (∀ x ∈ c.Locks, (∀ y ∈ x, y.ok)) ∧ (∀ x ∈ c.Txns, x.ok) ∧ (∀ x ∈ c.Looks, x.ok)
structure TWorldAct where
  Kind : Int
  At : Int
  By : Int
deriving DecidableEq, Inhabited
def TWorldAct.cs (c : TWorldAct) : List AV := [AV.int c.Kind, AV.int c.At, AV.int c.By]
theorem TWorldAct.flat (c : TWorldAct) : ∀ x ∈ c.cs, Flat x := (D8 (G7 _ _) (D8 (G7 _ _) (D8 (G7 _ _) H0)))
def TWorldAct.size (c : TWorldAct) : Nat := 0
structure TDeed where
  Txn : Int
  Begin : Int
  End : Int
  Yes : Bool
  Look : Bool
  Time : Int
  Got : List TGot
  Writes : List TWrite
deriving DecidableEq, Inhabited
def TDeed.cs (c : TDeed) : List AV := [AV.int c.Txn, AV.int c.Begin, AV.int c.End, AV.bool c.Yes, AV.bool c.Look, AV.int c.Time, AV.list 3 (c.Got.map TGot.cs), AV.list 3 (c.Writes.map TWrite.cs)]
def TDeed.size (c : TDeed) : Nat := sizeL TGot.size c.Got + sizeL TWrite.size c.Writes
def TDeed.ok (c : TDeed) : Prop := (∀ x ∈ c.Got, x.ok) ∧ (∀ x ∈ c.Writes, x.ok)
structure TPlaces where
  Ver : Int
  Cuts : List Str
  Groups : List Int
deriving DecidableEq, Inhabited
def TPlaces.cs (c : TPlaces) : List AV := [AV.int c.Ver, strs c.Cuts, ints c.Groups]
def TPlaces.size (c : TPlaces) : Nat := sizeL (fun x => x.length) c.Cuts + c.Groups.length
def TPlaces.ok (c : TPlaces) : Prop := (∀ x ∈ c.Cuts, x.length ≤ 9223372036854775807)
structure TAtlas where
  Maps : List TPlaces
  Knows : List Int
deriving DecidableEq, Inhabited
def TAtlas.cs (c : TAtlas) : List AV := [AV.list 3 (c.Maps.map TPlaces.cs), ints c.Knows]
def TAtlas.size (c : TAtlas) : Nat := sizeL TPlaces.size c.Maps + c.Knows.length
def TAtlas.ok (c : TAtlas) : Prop := (∀ x ∈ c.Maps, x.ok)
structure TMove where
  Low : Str
  High : Str
  Phase : Int
  From : List TWrite
  To : List TWrite
  Last : Str
  Over : Bool
deriving DecidableEq, Inhabited
def TMove.cs (c : TMove) : List AV := [AV.str c.Low, AV.str c.High, AV.int c.Phase, AV.list 3 (c.From.map TWrite.cs), AV.list 3 (c.To.map TWrite.cs), AV.str c.Last, AV.bool c.Over]
def TMove.size (c : TMove) : Nat := c.Low.length + c.High.length + sizeL TWrite.size c.From + sizeL TWrite.size c.To + c.Last.length
def TMove.ok (c : TMove) : Prop := c.Low.length ≤ 9223372036854775807 ∧ c.High.length ≤ 9223372036854775807 ∧ (∀ x ∈ c.From, x.ok) ∧ (∀ x ∈ c.To, x.ok) ∧ c.Last.length ≤ 9223372036854775807
structure TMoveAct where
  Kind : Int
  Write : TWrite
  Many : Int
deriving DecidableEq, Inhabited
def TMoveAct.cs (c : TMoveAct) : List AV := [AV.int c.Kind, AV.str c.Write.Key, AV.str c.Write.Val, AV.bool c.Write.Gone, AV.int c.Many]
theorem TMoveAct.flat (c : TMoveAct) : ∀ x ∈ c.cs, Flat x := (D8 (G7 _ _) (D8 (I6 _) (D8 (I6 _) (D8 (H2 _) (D8 (G7 _ _) H0)))))
def TMoveAct.size (c : TMoveAct) : Nat := c.Write.size
def TMoveAct.ok (c : TMoveAct) : Prop := c.Write.ok
structure TFeedItem where
  Time : Int
  Group : Int
  Key : Str
  Val : Str
  Gone : Bool
deriving DecidableEq, Inhabited
def TFeedItem.cs (c : TFeedItem) : List AV := [AV.int c.Time, AV.int c.Group, AV.str c.Key, AV.str c.Val, AV.bool c.Gone]
theorem TFeedItem.flat (c : TFeedItem) : ∀ x ∈ c.cs, Flat x := (D8 (G7 _ _) (D8 (G7 _ _) (D8 (I6 _) (D8 (I6 _) (D8 (H2 _) H0)))))
def TFeedItem.size (c : TFeedItem) : Nat := c.Key.length + c.Val.length
def TFeedItem.ok (c : TFeedItem) : Prop := c.Key.length ≤ 9223372036854775807 ∧ c.Val.length ≤ 9223372036854775807
structure TFeeder where
  Done : Int
deriving DecidableEq, Inhabited
def TFeeder.cs (c : TFeeder) : List AV := [AV.int c.Done]
theorem TFeeder.flat (c : TFeeder) : ∀ x ∈ c.cs, Flat x := (D8 (G7 _ _) H0)
def TFeeder.size (c : TFeeder) : Nat := 0
structure TIdx where
  Name : Str
  Col : Int
  Stage : Int
deriving DecidableEq, Inhabited
def TIdx.cs (c : TIdx) : List AV := [AV.str c.Name, AV.int c.Col, AV.int c.Stage]
theorem TIdx.flat (c : TIdx) : ∀ x ∈ c.cs, Flat x := (D8 (I6 _) (D8 (G7 _ _) (D8 (G7 _ _) H0)))
def TIdx.size (c : TIdx) : Nat := c.Name.length
def TIdx.ok (c : TIdx) : Prop := c.Name.length ≤ 9223372036854775807
structure TTable where
  Name : Str
  Cols : List Str
  Idxs : List TIdx
deriving DecidableEq, Inhabited
def TTable.cs (c : TTable) : List AV := [AV.str c.Name, strs c.Cols, AV.list 3 (c.Idxs.map TIdx.cs)]
def TTable.size (c : TTable) : Nat := c.Name.length + sizeL (fun x => x.length) c.Cols + sizeL TIdx.size c.Idxs
def TTable.ok (c : TTable) : Prop := c.Name.length ≤ 9223372036854775807 ∧ (∀ x ∈ c.Cols, x.length ≤ 9223372036854775807) ∧ (∀ x ∈ c.Idxs, x.ok)
structure TRow where
  Vals : List Str
deriving DecidableEq, Inhabited
def TRow.cs (c : TRow) : List AV := [strs c.Vals]
def TRow.size (c : TRow) : Nat := sizeL (fun x => x.length) c.Vals
def TRow.ok (c : TRow) : Prop := (∀ x ∈ c.Vals, x.length ≤ 9223372036854775807)
structure TRowAct where
  Kind : Int
  Old : TRow
  New : TRow
deriving DecidableEq, Inhabited
def TRowAct.cs (c : TRowAct) : List AV := [AV.int c.Kind, strs c.Old.Vals, strs c.New.Vals]
def TRowAct.size (c : TRowAct) : Nat := c.Old.size + c.New.size
def TRowAct.ok (c : TRowAct) : Prop := c.Old.ok ∧ c.New.ok
structure TShift where
  Name : Str
  Ways : List TTable
  At : List Int
  Store : List TWrite
deriving DecidableEq, Inhabited
def TShift.cs (c : TShift) : List AV := [AV.str c.Name, AV.list 3 (c.Ways.map TTable.cs), ints c.At, AV.list 3 (c.Store.map TWrite.cs)]
def TShift.size (c : TShift) : Nat := c.Name.length + sizeL TTable.size c.Ways + c.At.length + sizeL TWrite.size c.Store
def TShift.ok (c : TShift) : Prop := c.Name.length ≤ 9223372036854775807 ∧ (∀ x ∈ c.Ways, x.ok) ∧ (∀ x ∈ c.Store, x.ok)
structure TShiftAct where
  Server : Int
  Step : Int
  Act : TRowAct
deriving DecidableEq, Inhabited
def TShiftAct.cs (c : TShiftAct) : List AV := [AV.int c.Server, AV.int c.Step, AV.int c.Act.Kind, strs c.Act.Old.Vals, strs c.Act.New.Vals]
def TShiftAct.size (c : TShiftAct) : Nat := c.Act.size
def TShiftAct.ok (c : TShiftAct) : Prop := c.Act.ok
structure TVLease where
  Ver : Int
  Until : Int
deriving DecidableEq, Inhabited
def TVLease.cs (c : TVLease) : List AV := [AV.int c.Ver, AV.int c.Until]
theorem TVLease.flat (c : TVLease) : ∀ x ∈ c.cs, Flat x := (D8 (G7 _ _) (D8 (G7 _ _) H0))
def TVLease.size (c : TVLease) : Nat := 0
structure TRenew where
  Now : Int
  Master : TClock
  Clocks : List TClock
  Ver : Int
  Leases : List TVLease
deriving DecidableEq, Inhabited
def TRenew.cs (c : TRenew) : List AV := [AV.int c.Now, AV.int c.Master.Off, AV.list 1 (c.Clocks.map TClock.cs), AV.int c.Ver, AV.list 2 (c.Leases.map TVLease.cs)]
def TRenew.size (c : TRenew) : Nat := c.Clocks.length + c.Leases.length
structure TRenewAct where
  Kind : Int
  Who : Int
  By : Int
deriving DecidableEq, Inhabited
def TRenewAct.cs (c : TRenewAct) : List AV := [AV.int c.Kind, AV.int c.Who, AV.int c.By]
theorem TRenewAct.flat (c : TRenewAct) : ∀ x ∈ c.cs, Flat x := (D8 (G7 _ _) (D8 (G7 _ _) (D8 (G7 _ _) H0)))
def TRenewAct.size (c : TRenewAct) : Nat := 0
structure TFill where
  Last : Str
  Over : Bool
deriving DecidableEq, Inhabited
def TFill.cs (c : TFill) : List AV := [AV.str c.Last, AV.bool c.Over]
theorem TFill.flat (c : TFill) : ∀ x ∈ c.cs, Flat x := (D8 (I6 _) (D8 (H2 _) H0))
def TFill.size (c : TFill) : Nat := c.Last.length
def TFill.ok (c : TFill) : Prop := c.Last.length ≤ 9223372036854775807
structure TWork where
  Shift : TShift
  Up : TFill
  Down : TFill
deriving DecidableEq, Inhabited
def TWork.cs (c : TWork) : List AV := [AV.str c.Shift.Name, AV.list 3 (c.Shift.Ways.map TTable.cs), ints c.Shift.At, AV.list 3 (c.Shift.Store.map TWrite.cs), AV.str c.Up.Last, AV.bool c.Up.Over, AV.str c.Down.Last, AV.bool c.Down.Over]
def TWork.size (c : TWork) : Nat := c.Shift.size + c.Up.size + c.Down.size
def TWork.ok (c : TWork) : Prop := c.Shift.ok ∧ c.Up.ok ∧ c.Down.ok
structure TWorkAct where
  Kind : Int
  Many : Int
  Act : TShiftAct
deriving DecidableEq, Inhabited
def TWorkAct.cs (c : TWorkAct) : List AV := [AV.int c.Kind, AV.int c.Many, AV.int c.Act.Server, AV.int c.Act.Step, AV.int c.Act.Act.Kind, strs c.Act.Act.Old.Vals, strs c.Act.Act.New.Vals]
def TWorkAct.size (c : TWorkAct) : Nat := c.Act.size
def TWorkAct.ok (c : TWorkAct) : Prop := c.Act.ok
structure TStmt where
  Kind : Int
  Act : TRowAct
  Idx : Str
  Low : Str
  High : Str
deriving DecidableEq, Inhabited
def TStmt.cs (c : TStmt) : List AV := [AV.int c.Kind, AV.int c.Act.Kind, strs c.Act.Old.Vals, strs c.Act.New.Vals, AV.str c.Idx, AV.str c.Low, AV.str c.High]
def TStmt.size (c : TStmt) : Nat := c.Act.size + c.Idx.length + c.Low.length + c.High.length
def TStmt.ok (c : TStmt) : Prop := c.Act.ok ∧ c.Idx.length ≤ 9223372036854775807 ∧ c.Low.length ≤ 9223372036854775807 ∧ c.High.length ≤ 9223372036854775807
structure TCopy where
  Time : Int
  Rows : List TWrite
deriving DecidableEq, Inhabited
def TCopy.cs (c : TCopy) : List AV := [AV.int c.Time, AV.list 3 (c.Rows.map TWrite.cs)]
def TCopy.size (c : TCopy) : Nat := sizeL TWrite.size c.Rows
def TCopy.ok (c : TCopy) : Prop := (∀ x ∈ c.Rows, x.ok)
structure TDiff where
  From : Int
  To : Int
  List_ : List TFeedItem
deriving DecidableEq, Inhabited
def TDiff.cs (c : TDiff) : List AV := [AV.int c.From, AV.int c.To, AV.list 5 (c.List_.map TFeedItem.cs)]
def TDiff.size (c : TDiff) : Nat := sizeL TFeedItem.size c.List_
def TDiff.ok (c : TDiff) : Prop := (∀ x ∈ c.List_, x.ok)
structure TLiveJob where
  Ver : Int
  Fill : Bool
  Act : TRowAct
  Row : TRow
deriving DecidableEq, Inhabited
def TLiveJob.cs (c : TLiveJob) : List AV := [AV.int c.Ver, AV.bool c.Fill, AV.int c.Act.Kind, strs c.Act.Old.Vals, strs c.Act.New.Vals, strs c.Row.Vals]
def TLiveJob.size (c : TLiveJob) : Nat := c.Act.size + c.Row.size
def TLiveJob.ok (c : TLiveJob) : Prop := c.Act.ok ∧ c.Row.ok
structure TLive where
  Name : Str
  Ways : List TTable
  Low : Int
  Since : List Int
  Jobs : List TLiveJob
  World : TWorld
deriving DecidableEq, Inhabited
def TLive.cs (c : TLive) : List AV := [AV.str c.Name, AV.list 3 (c.Ways.map TTable.cs), AV.int c.Low, ints c.Since, AV.list 6 (c.Jobs.map TLiveJob.cs), AV.int c.World.Now, AV.int c.World.Count, AV.list 1 (c.World.Clocks.map TClock.cs), strs c.World.Cuts, AV.list 3 (c.World.Groups.map TGroup.cs), AV.list 1 (c.World.Locks.map fun x => [AV.list 3 (x.map TLock.cs)]), ints c.World.Promised, AV.list 10 (c.World.Txns.map TWorldTxn.cs), AV.list 6 (c.World.Looks.map TWorldLook.cs)]
def TLive.size (c : TLive) : Nat := c.Name.length + sizeL TTable.size c.Ways + c.Since.length + sizeL TLiveJob.size c.Jobs + c.World.size
def TLive.ok (c : TLive) : Prop := c.Name.length ≤ 9223372036854775807 ∧ (∀ x ∈ c.Ways, x.ok) ∧ (∀ x ∈ c.Jobs, x.ok) ∧ c.World.ok
structure TLiveAct where
  Kind : Int
  Act : TWorldAct
deriving DecidableEq, Inhabited
def TLiveAct.cs (c : TLiveAct) : List AV := [AV.int c.Kind, AV.int c.Act.Kind, AV.int c.Act.At, AV.int c.Act.By]
theorem TLiveAct.flat (c : TLiveAct) : ∀ x ∈ c.cs, Flat x := (D8 (G7 _ _) (D8 (G7 _ _) (D8 (G7 _ _) (D8 (G7 _ _) H0))))
def TLiveAct.size (c : TLiveAct) : Nat := 0
structure TLetter where
  From : Int
  To : Int
  Due : Int
  Body : Str
deriving DecidableEq, Inhabited
def TLetter.cs (c : TLetter) : List AV := [AV.int c.From, AV.int c.To, AV.int c.Due, AV.str c.Body]
theorem TLetter.flat (c : TLetter) : ∀ x ∈ c.cs, Flat x := (D8 (G7 _ _) (D8 (G7 _ _) (D8 (G7 _ _) (D8 (I6 _) H0))))
def TLetter.size (c : TLetter) : Nat := c.Body.length
def TLetter.ok (c : TLetter) : Prop := c.Body.length ≤ 9223372036854775807
structure TNet where
  Now : Int
  Homes : List Int
  Far : Int
  Under : List TLetter
deriving DecidableEq, Inhabited
def TNet.cs (c : TNet) : List AV := [AV.int c.Now, ints c.Homes, AV.int c.Far, AV.list 4 (c.Under.map TLetter.cs)]
def TNet.size (c : TNet) : Nat := c.Homes.length + sizeL TLetter.size c.Under
def TNet.ok (c : TNet) : Prop := (∀ x ∈ c.Under, x.ok)
structure TVoter where
  Up : Bool
  Term : Int
  For : Int
  Yes : List Int
  Leads : Bool
deriving DecidableEq, Inhabited
def TVoter.cs (c : TVoter) : List AV := [AV.bool c.Up, AV.int c.Term, AV.int c.For, ints c.Yes, AV.bool c.Leads]
def TVoter.size (c : TVoter) : Nat := c.Yes.length
structure TWon where
  Term : Int
  Who : Int
deriving DecidableEq, Inhabited
def TWon.cs (c : TWon) : List AV := [AV.int c.Term, AV.int c.Who]
theorem TWon.flat (c : TWon) : ∀ x ∈ c.cs, Flat x := (D8 (G7 _ _) (D8 (G7 _ _) H0))
def TWon.size (c : TWon) : Nat := 0
structure TPoll where
  Voters : List TVoter
  Net : TNet
  Won : List TWon
deriving DecidableEq, Inhabited
def TPoll.cs (c : TPoll) : List AV := [AV.list 5 (c.Voters.map TVoter.cs), AV.int c.Net.Now, ints c.Net.Homes, AV.int c.Net.Far, AV.list 4 (c.Net.Under.map TLetter.cs), AV.list 2 (c.Won.map TWon.cs)]
def TPoll.size (c : TPoll) : Nat := sizeL TVoter.size c.Voters + c.Net.size + c.Won.length
def TPoll.ok (c : TPoll) : Prop := c.Net.ok
structure TPollAct where
  Kind : Int
  Who : Int
  By : Int
deriving DecidableEq, Inhabited
def TPollAct.cs (c : TPollAct) : List AV := [AV.int c.Kind, AV.int c.Who, AV.int c.By]
theorem TPollAct.flat (c : TPollAct) : ∀ x ∈ c.cs, Flat x := (D8 (G7 _ _) (D8 (G7 _ _) (D8 (G7 _ _) H0)))
def TPollAct.size (c : TPollAct) : Nat := 0
end Go.M

namespace Go.M

def within (n lo hi : Int) : Bool := decide (lo ≤ n) && decide (n ≤ hi)
def lowDig (b : UInt8) : Bool := (decide ((97 : Int) ≤ (b.toNat : Int)) && decide ((b.toNat : Int) ≤ 122)) || (decide ((48 : Int) ≤ (b.toNat : Int)) && decide ((b.toNat : Int) ≤ 57))
def idxB (s : Str) (c : UInt8) : Int := firstIdx ⟨s.toArray⟩ c
def hasB (s o : Str) : Bool := s.all fun c => !(!lowDig c && decide (idxB o c < 0))
def goodKey (s : Str) : Bool := within s.length 1 12 && hasB s [46, 47]
def goodVal (s : Str) : Bool := decide ((s.length : Int) ≤ 24) && hasB s [46, 45, 44, 95]
def l3Bytes (s o : Str) : Bool := s.all fun c => (lowDig c || o.any fun d => ((c.toNat : Int) == (d.toNat : Int)))
def l3Key (s : Str) : Bool := within s.length 1 12 && l3Bytes s [46, 47]
theorem Ak4 (c : UInt8) (s o : Str) : hasB (c :: s) o = (!(!lowDig c && decide (idxB o c < 0)) && hasB s o) := rfl
theorem AS0 (c : UInt8) (s o : Str) : l3Bytes (c :: s) o = ((lowDig c || o.any fun d => ((c.toNat : Int) == (d.toNat : Int))) && l3Bytes s o) := rfl
end Go.M

namespace Go.M
end Go.M

namespace Go.M
theorem idxB_neg (o : Str) (c : UInt8) : decide (idxB o c < 0) = !(o.any fun d => ((c.toNat : Int) == (d.toNat : Int))) := by
  have hm : (o.any fun d => ((c.toNat : Int) == (d.toNat : Int))) = decide (c ∈ o) := by
    rw [Bool.eq_iff_iff]
    simp only [List.any_eq_true, beq_iff_eq, decide_eq_true_eq]
    constructor
    · rintro ⟨d, hd, he⟩
      have : c = d := UInt8.toNat_inj.1 (by exact_mod_cast he)
      exact this ▸ hd
    · intro h; exact ⟨c, h, rfl⟩
  rw [hm]
  unfold idxB firstIdx
  have hsz : (ByteArray.mk o.toArray).size = o.length := by simp [ByteArray.size]
  have hget : ∀ i, i < o.length → (ByteArray.mk o.toArray)[i]! = o[i]! := fun i hi => by
    simp [getElem!_def, ByteArray.getElem?_lt', hsz, hi]
    rfl
  rw [hsz]
  cases hf : (List.range o.length).find? fun i => (ByteArray.mk o.toArray)[i]! == c with
  | some i =>
    have h1 := List.find?_some hf
    have h2 := List.mem_range.1 (List.mem_of_find?_eq_some hf)
    rw [hget i h2] at h1
    have h3 : c ∈ o := by
      have : o[i]! = c := by simpa using h1
      rw [← this, getElem!_pos o i h2]
      exact List.getElem_mem h2
    simp [h3]
  | none =>
    have h1 := List.find?_eq_none.1 hf
    have h3 : ¬ c ∈ o := fun hm => by
      obtain ⟨i, hi, he⟩ := List.getElem_of_mem hm
      have := h1 i (List.mem_range.2 hi)
      rw [hget i hi, getElem!_pos o i hi, he] at this
      simp at this
    simp [h3]
theorem BC6 (s o : Str) : hasB s o = l3Bytes s o := by
  unfold hasB l3Bytes
  congr 1
  funext c
  rw [idxB_neg]
  cases lowDig c <;> simp
theorem l5 (s : Str) : goodKey s = l3Key s := by unfold goodKey l3Key; rw [BC6]
theorem N6 : ∀ a : Str, Op.bytesLess a a = false
  | [] => rfl
  | a :: x => by simp [Op.bytesLess, N6 x]
theorem T4 : ∀ a b : Str, Op.bytesLess a b = !(Op.bytesLess b a || b == a)
  | [], [] => rfl
  | [], _ :: _ => rfl
  | _ :: _, [] => rfl
  | a :: x, b :: y => by
    have ih := T4 x y
    simp only [Op.bytesLess]
    by_cases hab : a = b
    · subst hab
      simp [ih]
    · have h1 : (a == b) = false := by simpa using hab
      have h2 : (b == a) = false := by simpa using fun h => hab h.symm
      have h3 : (b :: y == a :: x) = false := by simp [h2]
      simp only [h1, h2, h3, Bool.false_and, Bool.or_false]
      rw [Bool.eq_iff_iff]
      simp only [decide_eq_true_eq, Bool.not_eq_true', decide_eq_false_iff_not, UInt8.not_lt]
      constructor
      · exact UInt8.le_of_lt
      · exact fun h => UInt8.lt_of_le_of_ne h hab
end Go.M

namespace Go.M
def adj {α : Type} (p : α → α → Bool) : List α → Bool
  | [] => true
  | [_] => true
  | x :: y :: l => p x y && adj p (y :: l)
theorem As6 {α : Type} {l : List α} {k : Nat} {x y : α} (hy : l[k]? = some y) (hx : l[k + 1]? = some x) : l.drop k = y :: x :: l.drop (k + 2) := by
  rw [Go.AV.drop_some hy, Go.AV.drop_some hx]
theorem s6 {α : Type} {p : α → α → Bool} {l : List α} {i : Nat} {x y : α} (hx : l[i]? = some x) (hy : l[i - 1]? = some y) (h : 0 < i → p y x = true) : adj p (l.drop (i - 1)) = adj p (l.drop (i + 1 - 1)) := by
  cases i with
  | zero => rfl
  | succ k =>
    simp only [Nat.add_sub_cancel] at *
    rw [As6 hy hx, Go.AV.drop_some hx, adj, h (by omega), Bool.true_and]
theorem s7 {α : Type} {p : α → α → Bool} {l : List α} {i : Nat} {x y : α} (hx : l[i]? = some x) (hy : l[i - 1]? = some y) (h0 : 0 < i) (h : p y x = false) : adj p (l.drop (i - 1)) = false := by
  cases i with
  | zero => omega
  | succ k =>
    simp only [Nat.add_sub_cancel] at *
    rw [As6 hy hx, adj, h, Bool.false_and]
theorem f7 {α : Type} {p : α → α → Bool} {l : List α} {i : Nat} (h : l.length ≤ i) : adj p (l.drop (i - 1)) = true := by
  have hl : (l.drop (i - 1)).length ≤ 1 := by rw [List.length_drop]; omega
  match hd : l.drop (i - 1), hl with
  | [], _ => rfl
  | [x], _ => rfl
def isTime (t : Int) : Bool := within t 1 100000
def isStored (val : Str) (gone : Bool) : Bool := goodVal val && !(gone && val != [])
def l3Val (s : Str) : Bool := decide ((s.length : Int) ≤ 24) && l3Bytes s [46, 45, 44, 95]
def l3Write (key val : Str) (gone : Bool) : Bool := l3Key key && l3Val val && (!gone || val == [])
def cmpInt (x y : Int) : Int := if x < y then -1 else if y < x then 1 else 0
def cmpStr (x y : Str) : Int := if Op.bytesLess x y then -1 else if Op.bytesLess y x then 1 else 0
theorem BF4 (s : Str) : goodVal s = l3Val s := by unfold goodVal l3Val; rw [BC6]
theorem AY2 (s : Str) (g : Bool) : isStored s g = (l3Val s && (!g || s == [])) := by
  unfold isStored; rw [BF4]; cases g <;> simp [bne]
end Go.M

namespace Go.M
theorem y7 {α : Type} {p : α → Bool} {l : List α} {i : Nat} {x : α} (hx : l[i]? = some x) (h : p x = true) : (l.drop i).all p = (l.drop (i + 1)).all p := by
  rw [Go.AV.drop_some hx, List.all_cons, h, Bool.true_and]
theorem s8 {α : Type} {p : α → Bool} {l : List α} {i : Nat} {x : α} (hx : l[i]? = some x) (h : p x = false) : (l.drop i).all p = false := by
  rw [Go.AV.drop_some hx, List.all_cons, h, Bool.false_and]
theorem j9 {α : Type} {p : α → Bool} {l : List α} {i : Nat} (h : l.length ≤ i) : (l.drop i).all p = true := by
  rw [List.drop_eq_nil_of_le h]; rfl
end Go.M

namespace Go.M
theorem Y3 {α β : Type} {f : α → β} {l : List α} {i : Nat} {x : α} (h : l[i]? = some x) : (l.take i).map f ++ [f x] = (l.take (i + 1)).map f := by
  rw [List.take_add_one, h]; simp
def areRising (l : List Str) : Bool := l.all goodKey && adj Op.bytesLess l
def wKeys (l : List TWrite) : List Str := l.map TWrite.Key
def goodWrites (l : List TWrite) : Bool := decide ((l.length : Int) ≤ 24) && areRising (wKeys l) && !(l.any fun w => !isStored w.Val w.Gone)
def wLess (a b : TWrite) : Bool := Op.bytesLess a.Key b.Key
def wGood (w : TWrite) : Bool := l3Write w.Key w.Val w.Gone
def l3Writes (l : List TWrite) : Bool := (l.all wGood && adj wLess l) && decide ((l.length : Int) ≤ 24)
theorem AW5 {α β : Type} (f : α → β) (p : β → β → Bool) : ∀ l : List α, adj p (l.map f) = adj (fun a b => p (f a) (f b)) l
  | [] => rfl
  | [_] => rfl
  | x :: y :: l => by
    have := AW5 f p (y :: l)
    simp only [List.map_cons, adj] at *
    rw [this]
theorem r9 (l : List TWrite) : goodWrites l = l3Writes l := by
  unfold goodWrites l3Writes areRising wKeys
  rw [AW5, List.all_map, List.not_any_eq_all_not]
  have h2 : l.all wGood = ((l.all (goodKey ∘ TWrite.Key)) && l.all fun w => l3Val w.Val && (!w.Gone || w.Val == [])) := by
    induction l with
    | nil => rfl
    | cons w l ih =>
      simp only [List.all_cons, ih, wGood, l3Write, Function.comp, l5, Bool.and_assoc]
      cases l3Key w.Key <;> cases l3Val w.Val <;> cases (!w.Gone || w.Val == []) <;> simp only [Bool.true_and, Bool.and_true, Bool.false_and, Bool.and_false]
  have h1 : (l.all fun w => !!isStored w.Val w.Gone) = l.all fun w => l3Val w.Val && (!w.Gone || w.Val == []) := by
    congr 1; funext w; rw [Bool.not_not, AY2]
  rw [h1, h2]
  show _ = _
  have h3 : adj (fun a b => Op.bytesLess a.Key b.Key) l = adj wLess l := rfl
  rw [h3]
  cases l.all (goodKey ∘ TWrite.Key) <;> cases adj wLess l <;> cases decide ((l.length : Int) ≤ 24) <;> cases (l.all fun w => l3Val w.Val && (!w.Gone || w.Val == [])) <;> rfl
end Go.M

namespace Go.M
theorem Q1 : ∀ {a b c : Str}, Op.bytesLess a b = true → Op.bytesLess b c = true → Op.bytesLess a c = true
  | [], b, c, h1, h2 => by
    cases c with
    | nil => cases b <;> simp [Op.bytesLess] at h2
    | cons z c => rfl
  | x :: a, [], _, h1, _ => by simp [Op.bytesLess] at h1
  | x :: a, y :: b, [], _, h2 => by simp [Op.bytesLess] at h2
  | x :: a, y :: b, z :: c, h1, h2 => by
    simp only [Op.bytesLess, Bool.or_eq_true, Bool.and_eq_true, decide_eq_true_eq, beq_iff_eq] at h1 h2 ⊢
    rcases h1 with h1 | ⟨h1, h1'⟩
    · rcases h2 with h2 | ⟨h2, _⟩
      · exact .inl (UInt8.lt_trans h1 h2)
      · subst h2; exact .inl h1
    · subst h1
      rcases h2 with h2 | ⟨h2, h2'⟩
      · exact .inl h2
      · exact .inr ⟨h2, Q1 h1' h2'⟩
theorem p8 (a b : Str) : cmpStr a b < 0 ↔ Op.bytesLess a b = true := by
  unfold cmpStr
  cases h1 : Op.bytesLess a b
  · cases h2 : Op.bytesLess b a <;> simp
  · simp
theorem AI0 (a b : Str) : cmpStr a b = 0 ↔ a = b := by
  unfold cmpStr
  have h3 := T4 a b
  cases h1 : Op.bytesLess a b
  · cases h2 : Op.bytesLess b a
    · rw [h1, h2] at h3; simp at h3; simp [h3]
    · simp; intro h; subst h; rw [h1] at h2; cases h2
  · simp; intro h; subst h; rw [N6] at h1; cases h1
theorem AW6 {α : Type} {p : α → α → Bool} (tr : ∀ a b c, p a b = true → p b c = true → p a c = true) : ∀ {l : List α} {x : α}, adj p (x :: l) = true → ∀ y ∈ l, p x y = true
  | [], _, _, y, hy => by simp at hy
  | z :: l, x, h, y, hy => by
    simp only [adj, Bool.and_eq_true] at h
    rcases List.mem_cons.1 hy with rfl | hy
    · exact h.1
    · exact tr _ _ _ h.1 (AW6 tr h.2 y hy)
theorem AN5 {α : Type} {p : α → α → Bool} {l : List α} {x : α} (h : adj p (x :: l) = true) : adj p l = true := by
  cases l with
  | nil => rfl
  | cons y l => simp only [adj, Bool.and_eq_true] at h; exact h.2
theorem m5 {α : Type} {p : α → α → Bool} (tr : ∀ a b c, p a b = true → p b c = true → p a c = true) : ∀ {l : List α}, adj p l = true → ∀ {i j : Nat} {x y : α}, i < j → l[i]? = some x → l[j]? = some y → p x y = true
  | [], _, i, j, x, y, _, hx, _ => by simp at hx
  | z :: l, h, 0, j + 1, x, y, _, hx, hy => by
    simp at hx; subst hx
    exact AW6 tr h y (F9 (by simpa using hy))
  | z :: l, h, i + 1, j + 1, x, y, hij, hx, hy => m5 tr (AN5 h) (by omega : i < j) (by simpa using hx) (by simpa using hy)
theorem Ah2 {α : Type} (f : α → Int) (l : List α) (down : ∀ (i j : Nat) (x y : α), i < j → l[i]? = some x → l[j]? = some y → f y < 0 → f x < 0) : ∀ (d i j : Nat), j - i = d → i ≤ j → j ≤ l.length →
    (∀ k x, k < i → l[k]? = some x → f x < 0) → (∀ x, l[j]? = some x → ¬ f x < 0) → (∀ k x, k < bs f l i j → l[k]? = some x → f x < 0) ∧ (∀ x, l[bs f l i j]? = some x → ¬ f x < 0) := by
  intro d
  induction d using Nat.strongRecOn with
  | _ d ih =>
    intro i j hd hij hjl hlo hhi
    by_cases h : i < j
    · obtain ⟨x, hx⟩ := Go.AV.get_some (show (i + j) / 2 < l.length by omega)
      by_cases hf : f x < 0
      · rw [Ad7 h hx hf]
        refine ih (j - ((i + j) / 2 + 1)) (by omega) _ _ rfl (by omega) hjl (fun k y hk hy => ?_) hhi
        rcases Nat.lt_or_ge k ((i + j) / 2) with h1 | h1
        · exact down k _ y x h1 hy hx hf
        · have : k = (i + j) / 2 := by omega
          subst this
          rw [hx] at hy; injection hy with hy; subst hy; exact hf
      · rw [Ad8 h hx hf]
        exact ih ((i + j) / 2 - i) (by omega) _ _ rfl (by omega) (by omega) hlo (fun y hy => by rw [hx] at hy; injection hy with hy; subst hy; exact hf)
    · rw [AR9 h]
      have : i = j := by omega
      subst this
      exact ⟨hlo, hhi⟩
def wCmp (k : Str) (w : TWrite) : Int := cmpStr w.Key k
def wPos (l : List TWrite) (k : Str) : Nat := bs (wCmp k) l 0 l.length
def wHas (l : List TWrite) (k : Str) : Bool := bsAt (wCmp k) l (wPos l k)
theorem l7 (a b c : TWrite) (h : wLess a b = true) (k : wLess b c = true) : wLess a c = true := Q1 h k
theorem Ak5 {l : List TWrite} (h : adj wLess l = true) (k : Str) : (∀ i x, i < wPos l k → l[i]? = some x → Op.bytesLess x.Key k = true) ∧ (∀ x, l[wPos l k]? = some x → Op.bytesLess x.Key k = false) := by
  have := Ah2 (wCmp k) l (fun i j x y hij hx hy hf => by
    unfold wCmp at *
    rw [p8] at *
    exact Q1 (m5 l7 h hij hx hy) hf) l.length 0 l.length rfl (Nat.zero_le _) (Nat.le_refl _) (fun k x hk => by omega) (fun x hx => by rw [List.getElem?_eq_none (Nat.le_refl _)] at hx; cases hx)
  refine ⟨fun i x hi hx => (p8 _ _).1 (this.1 i x hi hx), fun x hx => ?_⟩
  have h2 := this.2 x hx
  unfold wCmp at h2
  rw [p8] at h2
  simpa using h2
def findW (l : List TWrite) (k : Str) : Option TWrite := l.find? fun w => w.Key == k
theorem findW_eq {l : List TWrite} (h : adj wLess l = true) (k : Str) : findW l k = if wHas l k = true then l[wPos l k]? else none := by
  obtain ⟨h1, h2⟩ := Ak5 h k
  have hat : ∀ w ∈ l, w.Key = k → l[wPos l k]? = some w := fun w hw he => by
    obtain ⟨i, hi⟩ := List.getElem?_of_mem hw
    rcases Nat.lt_trichotomy i (wPos l k) with hlt | heq | hgt
    · have := h1 i w hlt hi
      rw [he, N6] at this; cases this
    · rw [← heq]; exact hi
    · obtain ⟨y, hy⟩ := Go.AV.get_some (show wPos l k < l.length by have := (List.getElem?_eq_some_iff.1 hi).1; omega)
      have h3 := h2 y hy
      have h4 := m5 l7 h hgt hy hi
      unfold wLess at h4
      rw [he, h3] at h4; cases h4
  unfold wHas bsAt findW
  cases hp : l[wPos l k]? with
  | none =>
    simp only [Bool.false_eq_true, if_false]
    rw [List.find?_eq_none]
    intro w hw
    simp only [beq_iff_eq]
    intro he
    have := hat w hw he
    rw [hp] at this; cases this
  | some y =>
    simp only [wCmp, beq_iff_eq, AI0]
    by_cases hk : y.Key = k
    · rw [if_pos hk]
      cases hf : l.find? fun w => w.Key == k with
      | none =>
        have := List.find?_eq_none.1 hf y (F9 hp)
        simp [hk] at this
      | some w =>
        have h5 := List.find?_some hf
        have h6 := hat w (List.mem_of_find?_eq_some hf) (by simpa using h5)
        rw [hp] at h6; exact h6.symm
    · rw [if_neg hk, List.find?_eq_none]
      intro w hw
      simp only [beq_iff_eq]
      intro he
      have := hat w hw he
      rw [hp] at this; injection this with this; subst this; exact hk he
end Go.M

namespace Go.M
end Go.M

namespace Go.M
def ins : List TWrite → TWrite → List TWrite
  | [], w => [w]
  | x :: l, w => if Op.bytesLess x.Key w.Key = true then x :: ins l w else if x.Key = w.Key then w :: l else w :: x :: l
theorem AS1 {w : TWrite} : ∀ {l : List TWrite} {p : Nat}, p ≤ l.length → (∀ i x, i < p → l[i]? = some x → Op.bytesLess x.Key w.Key = true) → (∀ x, l[p]? = some x → Op.bytesLess x.Key w.Key = false) →
    ins l w = if (∃ x, l[p]? = some x ∧ x.Key = w.Key) then l.set p w else l.take p ++ w :: l.drop p
  | [], p, hp, _, _ => by simp at hp; subst hp; simp [ins]
  | x :: l, 0, _, _, h2 => by
    have h := h2 x rfl
    unfold ins
    rw [h]
    by_cases hk : x.Key = w.Key
    · rw [if_neg (by decide), if_pos hk, if_pos ⟨x, rfl, hk⟩]; rfl
    · rw [if_neg (by decide), if_neg hk, if_neg (fun ⟨y, hy, hyk⟩ => by simp at hy; subst hy; exact hk hyk)]; rfl
  | x :: l, p + 1, hp, h1, h2 => by
    have h := h1 0 x (by omega) rfl
    unfold ins
    rw [if_pos h, AS1 (l := l) (p := p) (by simpa using hp) (fun i y hi hy => h1 (i + 1) y (by omega) (by simpa using hy)) (fun y hy => h2 y (by simpa using hy))]
    simp only [T7, S4, S5, S8]
    split <;> simp
def putW (l : List TWrite) (w : TWrite) : List TWrite := if wHas l w.Key = true then l.set (wPos l w.Key) w else l.take (wPos l w.Key) ++ w :: l.drop (wPos l w.Key)
theorem bs_le {α : Type} (f : α → Int) (l : List α) : ∀ (d i j : Nat), j - i = d → i ≤ j → j ≤ l.length → bs f l i j ≤ j := by
  intro d
  induction d using Nat.strongRecOn with
  | _ d ih =>
    intro i j hd hij hjl
    by_cases h : i < j
    · obtain ⟨x, hx⟩ := Go.AV.get_some (show (i + j) / 2 < l.length by omega)
      by_cases hf : f x < 0
      · rw [Ad7 h hx hf]
        exact ih (j - ((i + j) / 2 + 1)) (by omega) _ _ rfl (by omega) hjl
      · rw [Ad8 h hx hf]
        exact Nat.le_trans (ih ((i + j) / 2 - i) (by omega) _ _ rfl (by omega) (by omega)) (by omega)
    · rw [AR9 h]; exact hij
theorem BC7 (l : List TWrite) (k : Str) : wPos l k ≤ l.length := bs_le _ _ _ _ _ rfl (Nat.zero_le _) (Nat.le_refl _)
theorem AN6 {l : List TWrite} {k : Str} : wHas l k = true ↔ ∃ x, l[wPos l k]? = some x ∧ x.Key = k := by
  unfold wHas bsAt
  cases h : l[wPos l k]? with
  | none => simp
  | some x => simp [wCmp, AI0]
theorem putW_ins {l : List TWrite} (h : adj wLess l = true) (w : TWrite) : putW l w = ins l w := by
  obtain ⟨h1, h2⟩ := Ak5 h w.Key
  rw [AS1 (BC7 l w.Key) h1 h2]
  unfold putW
  by_cases hw : wHas l w.Key = true
  · rw [if_pos hw, if_pos (AN6.1 hw)]
  · rw [if_neg hw, if_neg (fun h => hw (AN6.2 h))]
def scanW (l : List TWrite) (k : Str) : Nat → Nat
  | 0 => 0
  | n + 1 => match l[n]? with
    | some x => if Op.bytesLess k x.Key = true then scanW l k n else n + 1
    | none => n + 1
def hitW (l : List TWrite) (k : Str) : Nat → Bool
  | 0 => false
  | n + 1 => match l[n]? with
    | some x => x.Key == k
    | none => false
def putWS (l : List TWrite) (w : TWrite) : List TWrite :=
  if hitW l w.Key (scanW l w.Key l.length) = true then l.set (scanW l w.Key l.length - 1) w else l.take (scanW l w.Key l.length) ++ w :: l.drop (scanW l w.Key l.length)
theorem As7 (l : List TWrite) (k : Str) : ∀ n, scanW l k n ≤ n
  | 0 => Nat.le_refl _
  | n + 1 => by
    unfold scanW
    split
    · split
      · exact Nat.le_succ_of_le (As7 l k n)
      · exact Nat.le_refl _
    · exact Nat.le_refl _
theorem Ad9 (l : List TWrite) (k : Str) : ∀ n, n ≤ l.length → (∀ i x, scanW l k n ≤ i → i < n → l[i]? = some x → Op.bytesLess k x.Key = true) ∧ (∀ x, 0 < scanW l k n → l[scanW l k n - 1]? = some x → Op.bytesLess k x.Key = false)
  | 0, _ => ⟨fun i x h1 h2 => by omega, fun x h => by simp [scanW] at h⟩
  | n + 1, hn => by
    obtain ⟨x, hx⟩ := Go.AV.get_some (show n < l.length by omega)
    have ih := Ad9 l k n (by omega)
    unfold scanW
    simp only [hx]
    by_cases hb : Op.bytesLess k x.Key = true
    · rw [if_pos hb]
      refine ⟨fun i y h1 h2 hy => ?_, ih.2⟩
      rcases Nat.lt_or_ge i n with h3 | h3
      · exact ih.1 i y h1 h3 hy
      · have : i = n := by omega
        subst this
        rw [hx] at hy; injection hy with hy; subst hy; exact hb
    · rw [if_neg hb]
      refine ⟨fun i y h1 h2 hy => by omega, fun y _ hy => ?_⟩
      rw [Nat.add_sub_cancel, hx] at hy; injection hy with hy; subst hy
      simpa using hb
theorem BL2 {l : List TWrite} (h : adj wLess l = true) (w : TWrite) : putWS l w = ins l w := by
  obtain ⟨h1, h2⟩ := Ad9 l w.Key l.length (Nat.le_refl _)
  have hle := As7 l w.Key l.length
  unfold putWS
  generalize scanW l w.Key l.length = k at *
  cases k with
  | zero =>
    rw [if_neg (by simp [hitW]), AS1 (l := l) (p := 0) (Nat.zero_le _) (fun i x h => by omega) (fun x hx => by
      have h3 := h1 0 x (Nat.le_refl _) (List.getElem?_eq_some_iff.1 hx).1 hx
      cases hb : Op.bytesLess x.Key w.Key with
      | false => rfl
      | true => have := Q1 h3 hb; rw [N6] at this; cases this)]
    rw [if_neg]
    intro ⟨x, hx, hk⟩
    have h3 := h1 0 x (Nat.le_refl _) (List.getElem?_eq_some_iff.1 hx).1 hx
    rw [hk, N6] at h3; cases h3
  | succ n =>
    obtain ⟨x, hx⟩ := Go.AV.get_some (show n < l.length by omega)
    have h3 := h2 x (by omega) (by simpa using hx)
    have htri := T4 x.Key w.Key
    by_cases hk : x.Key = w.Key
    · rw [if_pos (by simp [hitW, hx, hk]), Nat.add_sub_cancel]
      rw [AS1 (l := l) (p := n) (by omega) (fun i y hi hy => by have := m5 l7 h hi hy hx; unfold wLess at this; rw [hk] at this; exact this) (fun y hy => by rw [hx] at hy; injection hy with hy; subst hy; rw [hk, N6])]
      rw [if_pos ⟨x, hx, hk⟩]
    · have hlt : Op.bytesLess x.Key w.Key = true := by rw [h3] at htri; cases hb : Op.bytesLess x.Key w.Key with | true => rfl | false => (rw [hb] at htri; simp at htri; exact absurd htri.symm hk)
      rw [if_neg (by simp [hitW, hx, hk])]
      have hno : ∀ y, l[n + 1]? = some y → Op.bytesLess w.Key y.Key = true := fun y hy => h1 (n + 1) y (Nat.le_refl _) (List.getElem?_eq_some_iff.1 hy).1 hy
      rw [AS1 (l := l) (p := n + 1) hle (fun i y hi hy => by
        rcases Nat.lt_or_ge i n with h4 | h4
        · have := m5 l7 h h4 hy hx
          exact Q1 this hlt
        · have : i = n := by omega
          subst this
          rw [hx] at hy; injection hy with hy; subst hy; exact hlt) (fun y hy => by
        cases hb : Op.bytesLess y.Key w.Key with
        | false => rfl
        | true => have := Q1 (hno y hy) hb; rw [N6] at this; cases this)]
      rw [if_neg]
      intro ⟨y, hy, hyk⟩
      have := hno y hy
      rw [hyk, N6] at this; cases this
theorem y8 {α : Type} {p : α → α → Bool} (tr : ∀ a b c, p a b = true → p b c = true → p a c = true) : ∀ {l : List α}, adj p l = true ↔ l.Pairwise fun a b => p a b = true
  | [] => by simp [adj]
  | [x] => by simp [adj]
  | x :: y :: l => by
    rw [adj, Bool.and_eq_true, y8 tr, List.pairwise_cons (a := x)]
    constructor
    · intro ⟨h1, h2⟩
      refine ⟨fun z hz => ?_, h2⟩
      rcases List.mem_cons.1 hz with rfl | hz
      · exact h1
      · exact tr _ _ _ h1 (List.rel_of_pairwise_cons h2 hz)
    · intro ⟨h1, h2⟩
      exact ⟨h1 y List.mem_cons_self, h2⟩
theorem BC8 {w x : TWrite} : ∀ {l : List TWrite}, x ∈ ins l w → x = w ∨ x ∈ l
  | [], h => by simp [ins] at h; exact .inl h
  | y :: l, h => by
    unfold ins at h
    split at h
    · rcases List.mem_cons.1 h with rfl | h
      · exact .inr List.mem_cons_self
      · exact (BC8 h).imp id (List.mem_cons_of_mem _)
    · split at h
      · rcases List.mem_cons.1 h with rfl | h
        · exact .inl rfl
        · exact .inr (List.mem_cons_of_mem _ h)
      · rcases List.mem_cons.1 h with rfl | h
        · exact .inl rfl
        · exact .inr h
theorem BC9 {w : TWrite} : ∀ {l : List TWrite}, adj wLess l = true → adj wLess (ins l w) = true
  | [], _ => rfl
  | y :: l, h => by
    have hp := (y8 l7).1 h
    refine (y8 l7).2 ?_
    unfold ins
    split
    · rename_i hlt
      have ih := (y8 l7).1 (BC9 (w := w) (AN5 h))
      refine List.pairwise_cons.2 ⟨fun z hz => ?_, ih⟩
      rcases BC8 hz with rfl | hz
      · exact hlt
      · exact List.rel_of_pairwise_cons hp hz
    · rename_i hnlt
      split
      · rename_i hk
        refine List.pairwise_cons.2 ⟨fun z hz => ?_, (List.pairwise_cons.1 hp).2⟩
        have := List.rel_of_pairwise_cons hp hz
        unfold wLess at this ⊢
        rw [← hk]; exact this
      · rename_i hk
        have hgt : Op.bytesLess w.Key y.Key = true := by
          have := T4 y.Key w.Key
          cases hb : Op.bytesLess w.Key y.Key with
          | true => rfl
          | false => rw [hb] at this; simp at hnlt; rw [hnlt] at this; simp at this; exact absurd this.symm hk
        refine List.pairwise_cons.2 ⟨fun z hz => ?_, hp⟩
        rcases List.mem_cons.1 hz with rfl | hz
        · exact hgt
        · exact Q1 hgt (List.rel_of_pairwise_cons hp hz)
theorem BD0 {w : TWrite} : ∀ {l : List TWrite}, l.length ≤ (ins l w).length ∧ (ins l w).length ≤ l.length + 1
  | [] => by simp [ins]
  | y :: l => by
    unfold ins
    have ih := BD0 (w := w) (l := l)
    split
    · simp; omega
    · split <;> simp
theorem AK2 (a b : Str) : (!(Op.bytesLess a b || a == b)) = Op.bytesLess b a := by
  have h := T4 a b
  cases h1 : Op.bytesLess a b
  · cases h2 : Op.bytesLess b a
    · rw [h1, h2] at h; simp at h; simp [h]
    · simp; intro hc; subst hc; rw [N6] at h2; cases h2
  · simp; cases h2 : Op.bytesLess b a with
    | false => rfl
    | true => have := Q1 h1 h2; rw [N6] at this; cases this
theorem BF5 {l : List TWrite} {k : Str} {n : Nat} {x : TWrite} (hx : l[n]? = some x) (h : Op.bytesLess k x.Key = true) : scanW l k (n + 1) = scanW l k n := by
  conv => lhs; unfold scanW
  simp only [hx, h, if_true]
theorem BF6 {l : List TWrite} {k : Str} {n : Nat} {x : TWrite} (hx : l[n]? = some x) (h : Op.bytesLess k x.Key = false) : scanW l k (n + 1) = n + 1 := by
  unfold scanW
  simp only [hx, h, Bool.false_eq_true, if_false]
end Go.M

namespace Go.M
open Go.AV
def leS (c k : Str) : Bool := Op.bytesLess c k || c == k
theorem BD1 (c k : Str) : leS c k = !Op.bytesLess k c := by
  have := AK2 c k
  unfold leS; rw [← this, Bool.not_not]
def partN (l : List Str) (k : Str) : Nat := (l.filter fun c => leS c k).length
def partW (l : List Str) (k : Str) : Nat := (l.takeWhile fun c => leS c k).length
def goodCuts (l : List Str) : Bool := decide ((l.length : Int) < 4) && areRising l
def l15Cuts (l : List Str) : Bool := (l.all l3Key && adj Op.bytesLess l) && decide ((l.length : Int) < 4)
theorem Ay9 (l : List Str) : goodCuts l = l15Cuts l := by
  unfold goodCuts l15Cuts areRising
  rw [Bool.and_comm]
  congr 1; congr 1
  induction l with
  | nil => rfl
  | cons x l ih => rw [List.all_cons, List.all_cons, ih, l5]
theorem BL3 {l : List Str} {k c : Str} (hs : ∀ d ∈ l, Op.bytesLess c d = true) (h : leS c k = false) : partN l k = 0 := by
  unfold partN
  rw [List.length_eq_zero_iff, List.filter_eq_nil_iff]
  intro d hd
  rw [BD1] at h ⊢
  rw [Bool.not_eq_false'] at h
  rw [Q1 h (hs d hd)]; decide
theorem Ah3 {k : Str} : ∀ {l : List Str}, (l.Pairwise fun a b => Op.bytesLess a b = true) → partN l k = partW l k
  | [], _ => rfl
  | c :: l, hs => by
    obtain ⟨h1, h2⟩ := List.pairwise_cons.1 hs
    have ih := Ah3 (k := k) h2
    cases hc : leS c k with
    | true =>
      unfold partN partW at *
      rw [List.filter_cons_of_pos (p := fun c => leS c k) hc, List.takeWhile_cons_of_pos (p := fun c => leS c k) hc, I5, I5, ih]
    | false =>
      have h3 := BL3 h1 hc
      unfold partN partW at *
      rw [List.filter_cons_of_neg (p := fun c => leS c k) (by rw [hc]; decide), List.takeWhile_cons_of_neg (p := fun c => leS c k) (by rw [hc]; decide), h3]; rfl
theorem AE9 (l : List Str) (k : Str) : partW l k ≤ l.length := (List.takeWhile_sublist _).length_le
theorem AF0 {k : Str} : ∀ {l : List Str} {i : Nat} {c : Str}, l[i]? = some c → (i < partW l k → leS c k = true) ∧ (i = partW l k → leS c k = false)
  | [], i, c, h => by simp at h
  | d :: l, i, c, h => by
    unfold partW
    cases hd : leS d k with
    | true =>
      rw [List.takeWhile_cons_of_pos (p := fun c => leS c k) hd, I5]
      cases i with
      | zero => simp at h; subst h; exact ⟨fun _ => hd, fun e => by omega⟩
      | succ i =>
        have ih := AF0 (k := k) (l := l) (i := i) (c := c) (by simpa using h)
        unfold partW at ih
        exact ⟨fun hl => ih.1 (by omega), fun e => ih.2 (by omega)⟩
    | false =>
      rw [List.takeWhile_cons_of_neg (p := fun c => leS c k) (by rw [hd]; decide)]
      refine ⟨fun hl => by simp at hl, fun e => ?_⟩
      simp at e; subst e
      simp at h; subst h; exact hd
end Go.M

namespace Go.M
structure TSrc where
  at' : Nat
  bad : Bool
end Go.M

namespace Go.M
end Go.M

namespace Go.M
open Go.AV
def isTxnR (n : Int) : Bool := within n 1 60
def bareR (r : TRec) : Bool := ((r.Lead == 0) && ((r.Reads.length : Int) == 0)) && ((r.Writes.length : Int) == 0)
def good1 (r : TRec) : Bool := (((((((isTxnR r.Txn && isTime r.Time) && within r.Lead 0 3) && decide ((r.Reads.length : Int) ≤ 8)) && areRising r.Reads) && decide ((r.Writes.length : Int) ≤ 8)) && goodWrites r.Writes) && decide (0 < (r.Reads.length : Int) + (r.Writes.length : Int))) && !r.Yes
def good2 (r : TRec) : Bool := (bareR r && isTxnR r.Txn) && ((r.Yes && isTime r.Time) || (!r.Yes && (r.Time == 0)))
def good4 (r : TRec) : Bool := ((bareR r && (r.Txn == 0)) && isTime r.Time) && !r.Yes
def goodRec (r : TRec) : Bool := if r.Kind = 1 then good1 r else if r.Kind = 2 ∨ r.Kind = 3 then good2 r else if r.Kind = 4 then good4 r else false
def l4Keys (l : List Str) : Bool := (l.all l3Key && adj Op.bytesLess l) && decide ((l.length : Int) ≤ 8)
def oddR (r : TRec) : Bool := (r.Kind != 1) && ((r.Lead != 0) || decide (0 < (r.Reads.length : Int) + (r.Writes.length : Int)))
def l4G1 (r : TRec) : Bool := ((((((within r.Txn 1 60 && within r.Time 1 100000) && within r.Lead 0 3) && l4Keys r.Reads) && l3Writes r.Writes) && within (r.Writes.length : Int) 0 8) && decide (0 < (r.Reads.length : Int) + (r.Writes.length : Int))) && !r.Yes
def l4G2 (r : TRec) : Bool := within r.Txn 1 60 && ((r.Yes && within r.Time 1 100000) || (!r.Yes && (r.Time == 0)))
def l4G4 (r : TRec) : Bool := (((r.Kind == 4) && (r.Txn == 0)) && within r.Time 1 100000) && !r.Yes
def l4Good (r : TRec) : Bool := if oddR r = true then false else if r.Kind = 1 then l4G1 r else if r.Kind = 2 ∨ r.Kind = 3 then l4G2 r else l4G4 r
theorem bare_odd {r : TRec} (h : r.Kind ≠ 1) : bareR r = !oddR r := by
  have hk : (r.Kind != 1) = true := by simpa using h
  unfold bareR oddR
  rw [hk, Bool.true_and, Bool.eq_iff_iff]
  simp only [Bool.and_eq_true, beq_iff_eq, Bool.not_eq_true', Bool.or_eq_false_iff, bne_eq_false_iff_eq, decide_eq_false_iff_not]
  omega
theorem keys_eq (l : List Str) : (decide ((l.length : Int) ≤ 8) && areRising l) = l4Keys l := by
  unfold areRising l4Keys
  rw [show l.all goodKey = l.all l3Key by congr 1; funext s; rw [l5]]
  rw [Bool.and_comm]
theorem AD2 (r : TRec) : goodRec r = l4Good r := by
  unfold goodRec l4Good
  by_cases h1 : r.Kind = 1
  · have ho : oddR r = false := by unfold oddR; rw [h1]; rfl
    rw [if_pos h1, ho, if_neg (by decide), if_pos h1]
    unfold good1 l4G1
    rw [← keys_eq, ← r9]
    have hw : within (r.Writes.length : Int) 0 8 = decide ((r.Writes.length : Int) ≤ 8) := by unfold within; simp
    rw [hw]
    unfold isTxnR isTime
    cases within r.Txn 1 60 <;> cases within r.Time 1 100000 <;> cases within r.Lead 0 3 <;> cases decide ((r.Reads.length : Int) ≤ 8) <;> cases areRising r.Reads <;> cases decide ((r.Writes.length : Int) ≤ 8) <;> cases goodWrites r.Writes <;> simp
  · have hb := bare_odd h1
    rw [if_neg h1, if_neg h1]
    by_cases h2 : r.Kind = 2 ∨ r.Kind = 3
    · rw [if_pos h2, if_pos h2]
      unfold good2 l4G2
      rw [hb]
      cases oddR r <;> simp [isTxnR, isTime]
    · rw [if_neg h2, if_neg h2]
      unfold l4G4
      by_cases h4 : r.Kind = 4
      · rw [if_pos h4]
        unfold good4
        rw [hb, h4]
        cases oddR r <;> simp [isTime]
      · rw [if_neg h4]
        have e4 : (r.Kind == 4) = false := by simpa using h4
        rw [e4]; cases oddR r <;> simp
structure GoodR (r : TRec) : Prop where
  kind : 1 ≤ r.Kind ∧ r.Kind ≤ 4
  txn : 0 ≤ r.Txn ∧ r.Txn ≤ 60
  time : 0 ≤ r.Time ∧ r.Time ≤ 100000
  lead : 0 ≤ r.Lead ∧ r.Lead ≤ 3
  reads : r.Reads.length ≤ 8 ∧ ∀ s ∈ r.Reads, l3Key s = true
  writes : r.Writes.length ≤ 8 ∧ ∀ w ∈ r.Writes, l3Key w.Key = true ∧ l3Val w.Val = true ∧ (w.Gone = true → w.Val = [])
theorem Ak6 {r : TRec} (h : bareR r = true) : r.Lead = 0 ∧ r.Reads = [] ∧ r.Writes = [] := by
  unfold bareR at h
  simp only [Bool.and_eq_true, beq_iff_eq] at h
  exact ⟨h.1.1, List.eq_nil_of_length_eq_zero (by omega), List.eq_nil_of_length_eq_zero (by omega)⟩
theorem goodR {r : TRec} (h : goodRec r = true) : GoodR r := by
  unfold goodRec at h
  split at h
  · rename_i hk
    unfold good1 isTxnR isTime within at h
    simp only [Bool.and_eq_true, decide_eq_true_eq] at h
    obtain ⟨⟨⟨⟨⟨⟨⟨⟨h1, h2⟩, h3⟩, h4⟩, h5⟩, h6⟩, h7⟩, _⟩, _⟩ := h
    rw [r9] at h7
    unfold l3Writes at h7
    unfold areRising at h5
    simp only [Bool.and_eq_true, List.all_eq_true] at h5 h7
    refine ⟨by omega, by omega, by omega, by omega, ⟨by omega, fun s hs => by rw [← l5]; exact h5.1 s hs⟩, ⟨by omega, fun w hw => ?_⟩⟩
    have := h7.1.1 w hw
    unfold wGood l3Write at this
    simp only [Bool.and_eq_true, Bool.or_eq_true, Bool.not_eq_true'] at this
    exact ⟨this.1.1, this.1.2, fun e => by rcases this.2 with g | g; rw [e] at g; cases g; simpa using g⟩
  · split at h
    · rename_i hk
      unfold good2 isTxnR isTime within at h
      simp only [Bool.and_eq_true, Bool.or_eq_true, decide_eq_true_eq, beq_iff_eq, Bool.not_eq_true'] at h
      obtain ⟨⟨h1, h2⟩, h3⟩ := h
      obtain ⟨l1, l2, l3⟩ := Ak6 h1
      refine ⟨by omega, by omega, by omega, by omega, by rw [l2]; exact ⟨Nat.zero_le _, fun s hs => by cases hs⟩, by rw [l3]; exact ⟨Nat.zero_le _, fun s hs => by cases hs⟩⟩
    · split at h
      · rename_i hk
        unfold good4 isTime within at h
        simp only [Bool.and_eq_true, decide_eq_true_eq, beq_iff_eq, Bool.not_eq_true'] at h
        obtain ⟨⟨⟨h1, h2⟩, h3⟩, _⟩ := h
        obtain ⟨l1, l2, l3⟩ := Ak6 h1
        refine ⟨by omega, by omega, by omega, by omega, by rw [l2]; exact ⟨Nat.zero_le _, fun s hs => by cases hs⟩, by rw [l3]; exact ⟨Nat.zero_le _, fun s hs => by cases hs⟩⟩
      · cases h
theorem Ae0 {s : Str} (h : l3Key s = true) : s.length ≤ 12 := by
  unfold l3Key within at h
  simp only [Bool.and_eq_true, decide_eq_true_eq] at h
  have := h.1; omega
theorem BF7 {s : Str} (h : l3Val s = true) : s.length ≤ 24 := by
  unfold l3Val at h
  simp only [Bool.and_eq_true, decide_eq_true_eq] at h
  have := h.1; omega
end Go.M

set_option linter.unusedSectionVars false
namespace Go.M
open Go.AV
section
variable {α : Type} [Inhabited α]
structure Swo (lt : α → α → Bool) : Prop where
  asym : ∀ a b, lt a b = true → lt b a = false
  ntr : ∀ a b c, lt b a = false → lt c b = false → lt c a = false
def InR (l : List α) (a b : Nat) (x : α) : Prop := ∃ i, a ≤ i ∧ i < b ∧ l[i]? = some x
structure Shuf (l l' : List α) (a b : Nat) : Prop where
  len : l'.length = l.length
  perm : l'.Perm l
  out : ∀ i, i < a ∨ b ≤ i → l'[i]? = l[i]?
  inn : ∀ x, InR l' a b x → InR l a b x
theorem Shuf.refl (l : List α) (a b : Nat) : Shuf l l a b := ⟨rfl, List.Perm.refl _, fun _ _ => rfl, fun _ h => h⟩
theorem Shuf.trans {l l' l'' : List α} {a b : Nat} (h : Shuf l l' a b) (k : Shuf l' l'' a b) : Shuf l l'' a b :=
  ⟨k.len.trans h.len, k.perm.trans h.perm, fun i hi => (k.out i hi).trans (h.out i hi), fun x hx => h.inn x (k.inn x hx)⟩
end
end Go.M

namespace Go.M
open Go.AV
section
variable {α : Type} [Inhabited α] [DecidableEq α]
def cmpN (l : List α) : Nat → List α
  | 0 => []
  | n + 1 => if n ≠ 0 ∧ l[n]? = l[n - 1]? then cmpN l n else cmpN l n ++ (l[n]?).toList
def cmpL (l : List α) : List α := cmpN l l.length
theorem As8 (l : List α) : ∀ n, (cmpN l n).length ≤ n
  | 0 => Nat.le_refl _
  | n + 1 => by
    have h := As8 l n
    show (if n ≠ 0 ∧ l[n]? = l[n - 1]? then cmpN l n else cmpN l n ++ (l[n]?).toList).length ≤ n + 1
    split
    · omega
    · rw [J6]
      cases l[n]? <;> simp <;> omega
theorem AS2 {l : List α} {n : Nat} (h0 : n ≠ 0) (h : l[n]? = l[n - 1]?) : cmpN l (n + 1) = cmpN l n := if_pos ⟨h0, h⟩
theorem Ak7 {l : List α} {n : Nat} {x : α} (hx : l[n]? = some x) (h : n = 0 ∨ l[n]? ≠ l[n - 1]?) : cmpN l (n + 1) = cmpN l n ++ [x] := by
  show (if n ≠ 0 ∧ l[n]? = l[n - 1]? then cmpN l n else cmpN l n ++ (l[n]?).toList) = _
  rw [if_neg (fun e => h.elim (fun f => e.1 f) fun f => f e.2), hx]; rfl
theorem o8 {l : List α} : ∀ {n : Nat}, n ≤ l.length → (∀ i, 1 ≤ i → i < n → l[i]? ≠ l[i - 1]?) → cmpN l n = l.take n
  | 0, _, _ => by rw [List.take_zero]; rfl
  | n + 1, hn, h => by
    have hx : l[n]? = some l[n] := List.getElem?_eq_getElem (by omega)
    rw [Ak7 hx (by by_cases e : n = 0; exact .inl e; exact .inr (h n (by omega) (by omega))), o8 (by omega) (fun i h1 h2 => h i h1 (by omega)), List.take_add_one, hx]; rfl
theorem u7 {m l : List α} {i j : Nat} {x : α} (h : m.drop i = l.drop i) (hx : l[j]? = some x) (hij : i ≤ j) : m[j]? = some x := by
  have h1 := congrArg (fun z : List α => z[j - i]?) h
  simp only [List.getElem?_drop, show i + (j - i) = j by omega] at h1
  rw [h1, hx]
theorem As9 {l m : List α} {k i j : Nat} {x y : α} (h : 1 ≤ j ∧ k + j ≤ l.length ∧ i + 1 ≤ k + j ∧ m.length = l.length ∧ m.take i = cmpN l (k + j) ∧ m.drop (k + j - 1) = l.drop (k + j - 1)) (hlt : k + j < l.length) (hx : l[k + j]? = some x) (hy : l[k + j - 1]? = some y) (hn : x ≠ y) :
    1 ≤ j + 1 ∧ k + (j + 1) ≤ l.length ∧ i + 1 + 1 ≤ k + (j + 1) ∧ (m.set i x).length = l.length ∧ (m.set i x).take (i + 1) = cmpN l (k + (j + 1)) ∧ (m.set i x).drop (k + (j + 1) - 1) = l.drop (k + (j + 1) - 1) := by
  obtain ⟨h1, h2, h3, h4, h5, h6⟩ := h
  refine ⟨by omega, by omega, by omega, by rw [List.length_set, h4], ?_, ?_⟩
  · rw [List.take_add_one, List.getElem?_set_self (by omega), List.take_set_of_le (Nat.le_refl _), h5, ← Nat.add_assoc, Ak7 hx (.inr (by rw [hx, hy]; intro e; injection e with e; exact hn e))]; rfl
  · rw [List.drop_set_of_lt (by omega), show k + (j + 1) - 1 = k + j - 1 + 1 by omega, ← List.drop_drop, h6, List.drop_drop]
theorem At0 {l m : List α} {k i j : Nat} {x y : α} (h : 1 ≤ j ∧ k + j ≤ l.length ∧ i + 1 ≤ k + j ∧ m.length = l.length ∧ m.take i = cmpN l (k + j) ∧ m.drop (k + j - 1) = l.drop (k + j - 1)) (hlt : k + j < l.length) (hx : l[k + j]? = some x) (hy : l[k + j - 1]? = some y) (hn : x = y) :
    1 ≤ j + 1 ∧ k + (j + 1) ≤ l.length ∧ i + 1 ≤ k + (j + 1) ∧ m.length = l.length ∧ m.take i = cmpN l (k + (j + 1)) ∧ m.drop (k + (j + 1) - 1) = l.drop (k + (j + 1) - 1) := by
  obtain ⟨h1, h2, h3, h4, h5, h6⟩ := h
  refine ⟨by omega, by omega, by omega, h4, ?_, ?_⟩
  · rw [h5, ← Nat.add_assoc, AS2 (by omega) (by rw [hx, hy, hn])]
  · rw [show k + (j + 1) - 1 = k + j - 1 + 1 by omega, ← List.drop_drop, h6, List.drop_drop]
theorem AE1 {l m : List α} {f : α → List AV} {k i j q : Nat} {z : List AV} (h : m.take i = cmpN l (k + j)) (hk : k + j = l.length) (hi : i ≤ m.length) : (((m.map f).take (i : Int).toNat ++ List.replicate q z).take (i : Int).toNat) = (cmpL l).map f := by
  unfold cmpL
  rw [← hk, ← h, Int.toNat_natCast, List.map_take, List.take_left' (by rw [D9, A8]; omega)]
end
end Go.M

namespace Go.M
end Go.M

namespace Go.M
theorem BF8 {n a b : Int} : within n a b = true ↔ a ≤ n ∧ n ≤ b := by unfold within; simp
theorem Az0 {k : Str} (h : goodKey k = true) : k.length ≤ 12 := by
  unfold goodKey at h; simp only [Bool.and_eq_true, BF8] at h; omega
end Go.M

namespace Go.M
end Go.M

namespace Go.M
theorem AS3 (a b : Str) : Op.bytesLess a b = true ∨ a = b ∨ Op.bytesLess b a = true := by
  have h := T4 a b
  cases h1 : Op.bytesLess a b
  · cases h2 : Op.bytesLess b a
    · rw [h1, h2] at h; simp at h; exact .inr (.inl h.symm)
    · exact .inr (.inr rfl)
  · exact .inl rfl
end Go.M

namespace Go.M
open Go.AV
def SrtS (l : List Str) : Prop := l.Pairwise fun a b => Op.bytesLess a b = true
theorem At1 : ∀ {a b : List Str}, SrtS a → SrtS b → (∀ x, x ∈ a ↔ x ∈ b) → a = b
  | [], [], _, _, _ => rfl
  | [], y :: b, _, _, h => by have := (h y).2 List.mem_cons_self; cases this
  | x :: a, [], _, _, h => by have := (h x).1 List.mem_cons_self; cases this
  | x :: a, y :: b, ha, hb, h => by
    obtain ⟨a1, a2⟩ := List.pairwise_cons.1 ha
    obtain ⟨b1, b2⟩ := List.pairwise_cons.1 hb
    have asym : ∀ {u v : Str}, Op.bytesLess u v = true → Op.bytesLess v u = true → False := fun h k => by
      have := Q1 h k; rw [N6] at this; cases this
    have e : x = y := by
      rcases List.mem_cons.1 ((h x).1 List.mem_cons_self) with e | e
      · exact e
      · rcases List.mem_cons.1 ((h y).2 List.mem_cons_self) with f | f
        · exact f.symm
        · exact (asym (b1 x e) (a1 y f)).elim
    subst e
    rw [At1 a2 b2 fun z => ?_]
    constructor
    · intro hz
      rcases List.mem_cons.1 ((h z).1 (List.mem_cons_of_mem _ hz)) with e | e
      · subst e; have := a1 z hz; rw [N6] at this; cases this
      · exact e
    · intro hz
      rcases List.mem_cons.1 ((h z).2 (List.mem_cons_of_mem _ hz)) with e | e
      · subst e; have := b1 z hz; rw [N6] at this; cases this
      · exact e
def sortS (l : List Str) : List Str := l.mergeSort fun x y => decide (x ≤ y)
theorem le_less (x y : Str) : decide (x ≤ y) = !Op.bytesLess y x := by
  rw [Go.Proofs.bytesLess_eq]
  by_cases h : y < x
  · simp [h, List.not_le.2 h]
  · simp [h, List.not_lt.1 h]
theorem BL4 (l : List Str) (z : Str) : z ∈ sortS l ↔ z ∈ l := (List.mergeSort_perm l _).mem_iff
theorem AG5 (l : List Str) : (sortS l).length = l.length := List.length_mergeSort l
theorem BF9 (l : List Str) : (sortS l).Pairwise fun a b => Op.bytesLess b a = false := by
  have h := List.pairwise_mergeSort (le := fun x y : Str => decide (x ≤ y)) (fun a b c h1 h2 => by
    simp only [decide_eq_true_eq] at *; exact List.le_trans h1 h2) (fun a b => by
    simp only [Bool.or_eq_true, decide_eq_true_eq]; exact List.le_total a b) l
  refine h.imp fun {a b} hab => ?_
  rw [le_less] at hab
  simpa using hab
theorem AG6 {l : List Str} {z : Str} : ∀ {n : Nat}, z ∈ cmpN l n ↔ ∃ i, i < n ∧ l[i]? = some z
  | 0 => by constructor
            · intro h; cases h
            · rintro ⟨i, h, _⟩; omega
  | n + 1 => by
    show z ∈ (if n ≠ 0 ∧ l[n]? = l[n - 1]? then cmpN l n else cmpN l n ++ (l[n]?).toList) ↔ _
    split
    · rename_i h
      rw [AG6]
      constructor
      · exact fun ⟨i, h1, h2⟩ => ⟨i, by omega, h2⟩
      · intro ⟨i, h1, h2⟩
        by_cases e : i = n
        · subst e; exact ⟨i - 1, by omega, h.2 ▸ h2⟩
        · exact ⟨i, by omega, h2⟩
    · rw [List.mem_append, AG6, Option.mem_toList]
      constructor
      · rintro (⟨i, h1, h2⟩ | h)
        · exact ⟨i, by omega, h2⟩
        · exact ⟨n, by omega, h⟩
      · intro ⟨i, h1, h2⟩
        by_cases e : i = n
        · subst e; exact .inr h2
        · exact .inl ⟨i, by omega, h2⟩
theorem BL5 (l : List Str) (z : Str) : z ∈ cmpL l ↔ z ∈ l := by
  unfold cmpL
  rw [AG6]
  constructor
  · exact fun ⟨i, _, h⟩ => F9 h
  · intro h
    obtain ⟨i, hi⟩ := List.getElem?_of_mem h
    exact ⟨i, (List.getElem?_eq_some_iff.1 hi).1, hi⟩
theorem Aa7 {l : List Str} (hs : l.Pairwise fun a b => Op.bytesLess b a = false) {i j : Nat} {x y : Str} (hij : i < j) (hx : l[i]? = some x) (hy : l[j]? = some y) : Op.bytesLess y x = false := by
  obtain ⟨h1, e1⟩ := List.getElem?_eq_some_iff.1 hx
  obtain ⟨h2, e2⟩ := List.getElem?_eq_some_iff.1 hy
  have := List.pairwise_iff_getElem.1 hs i j h1 h2 hij
  rw [e1, e2] at this; exact this
theorem Ak8 {l : List Str} (hs : l.Pairwise fun a b => Op.bytesLess b a = false) : ∀ {n : Nat}, n ≤ l.length → SrtS (cmpN l n)
  | 0, _ => List.Pairwise.nil
  | n + 1, hn => by
    have ih := Ak8 hs (n := n) (by omega)
    show SrtS (if n ≠ 0 ∧ l[n]? = l[n - 1]? then cmpN l n else cmpN l n ++ (l[n]?).toList)
    split
    · exact ih
    · rename_i h
      obtain ⟨x, hx⟩ := get_some (show n < l.length by omega)
      rw [hx]
      refine List.pairwise_append.2 ⟨ih, List.pairwise_singleton _ _, fun z hz w hw => ?_⟩
      simp at hw; subst hw
      obtain ⟨i, hi, hzi⟩ := AG6.1 hz
      have h1 := Aa7 hs hi hzi hx
      rcases AS3 z w with e | e | e
      · exact e
      · exfalso
        subst e
        apply h
        refine ⟨by omega, ?_⟩
        by_cases f : i = n - 1
        · rw [hx, ← f, hzi]
        · obtain ⟨v, hv⟩ := get_some (show n - 1 < l.length by omega)
          have h3 := Aa7 hs (show n - 1 < n by omega) hv hx
          have h4 := Aa7 hs (show i < n - 1 by omega) hzi hv
          rw [hx, hv]
          rcases AS3 z v with g | g | g
          · rw [g] at h3; cases h3
          · rw [g]
          · rw [g] at h4; cases h4
      · rw [h1] at e; cases e
def keysI (l : List Str) : List Str := cmpL (sortS l)
theorem AS4 (l : List Str) : SrtS (keysI l) := Ak8 (BF9 l) (Nat.le_refl _)
theorem AB7 (l : List Str) (z : Str) : z ∈ keysI l ↔ z ∈ l := by unfold keysI; rw [BL5, BL4]
theorem AG7 (l : List Str) : (keysI l).length ≤ l.length := by
  have := As8 (sortS l) (sortS l).length
  unfold keysI cmpL; rw [AG5] at this ⊢; exact this
def putS : List Str → Str → List Str
  | [], s => [s]
  | y :: l, s => if Op.bytesLess s y = true then s :: y :: l else if y = s then y :: l else y :: putS l s
theorem s9 {s : Str} : ∀ {l : List Str}, SrtS l → SrtS (putS l s) ∧ ∀ z, z ∈ putS l s ↔ z ∈ l ∨ z = s
  | [], _ => ⟨by unfold SrtS putS; simp, fun z => by simp [putS]⟩
  | y :: l, h => by
    obtain ⟨h1, h2⟩ := List.pairwise_cons.1 h
    unfold putS
    split
    · rename_i hs
      refine ⟨List.pairwise_cons.2 ⟨fun z hz => ?_, h⟩, fun z => ?_⟩
      · rcases List.mem_cons.1 hz with rfl | hz
        · exact hs
        · exact Q1 hs (h1 z hz)
      · rw [List.mem_cons, or_comm]
    · rename_i hs
      split
      · rename_i e
        subst e
        refine ⟨h, fun z => ⟨.inl, ?_⟩⟩
        rintro (hz | rfl)
        · exact hz
        · exact List.mem_cons_self
      · rename_i e
        obtain ⟨i1, i2⟩ := s9 (s := s) h2
        have hys : Op.bytesLess y s = true := by
          rcases AS3 y s with g | g | g
          · exact g
          · exact absurd g e
          · exact absurd g hs
        refine ⟨List.pairwise_cons.2 ⟨fun z hz => ?_, i1⟩, fun z => ?_⟩
        · rcases (i2 z).1 hz with hz | rfl
          · exact h1 z hz
          · exact hys
        · rw [List.mem_cons, i2, List.mem_cons, or_assoc]
theorem AF1 (s : Str) : ∀ l : List Str, (putS l s).length ≤ l.length + 1
  | [] => Nat.le_refl _
  | y :: l => by
    have := AF1 s l
    unfold putS
    split
    · exact Nat.le_refl _
    · split
      · exact Nat.le_succ _
      · rw [I5, I5]; omega
def putAllS (l : List Str) (o : List Str) : List Str := l.foldl putS o
theorem o0 : ∀ {l o : List Str}, SrtS o → SrtS (putAllS l o) ∧ ∀ z, z ∈ putAllS l o ↔ z ∈ o ∨ z ∈ l
  | [], o, h => ⟨h, fun z => by simp [putAllS]⟩
  | s :: l, o, h => by
    obtain ⟨h1, h2⟩ := s9 (s := s) h
    obtain ⟨i1, i2⟩ := o0 (l := l) h1
    refine ⟨i1, fun z => ?_⟩
    show z ∈ putAllS l (putS o s) ↔ _
    rw [i2, h2, List.mem_cons, or_assoc]
theorem Ak9 (l : List Str) : keysI l = putAllS l [] := by
  obtain ⟨h1, h2⟩ := o0 (l := l) (o := []) List.Pairwise.nil
  exact At1 (AS4 l) h1 fun z => by rw [AB7, h2]; simp
theorem Al0 {s : Str} : ∀ {l : List Str} {k : Nat}, SrtS l → k ≤ l.length → (∀ i y, k ≤ i → l[i]? = some y → Op.bytesLess s y = true) → (∀ y, 0 < k → l[k - 1]? = some y → Op.bytesLess s y = false ∧ y ≠ s) → putS l s = l.take k ++ s :: l.drop k
  | [], k, _, hk, _, _ => by have : k = 0 := by simpa using hk
                             subst this; rfl
  | y :: l, 0, _, _, h, _ => by
    unfold putS
    rw [if_pos (h 0 y (Nat.le_refl _) rfl)]; rfl
  | y :: l, k + 1, hs, hk, h, g => by
    obtain ⟨h1, h2⟩ := List.pairwise_cons.1 hs
    have hy : Op.bytesLess s y = false ∧ y ≠ s := by
      cases k with
      | zero => exact g y (by omega) rfl
      | succ k =>
        obtain ⟨z, hz⟩ := get_some (show k < l.length by simp at hk; omega)
        have hgz := g z (by omega) (by simpa using hz)
        have hyz := h1 z (F9 hz)
        refine ⟨?_, fun e => ?_⟩
        · cases e : Op.bytesLess s y with
          | false => rfl
          | true => have := Q1 e hyz; rw [hgz.1] at this; cases this
        · subst e; rw [hyz] at hgz; cases hgz.1
    unfold putS
    rw [if_neg (by rw [hy.1]; decide), if_neg hy.2, Al0 h2 (by simpa using hk) (fun i z hi hz => h (i + 1) z (by omega) (by simpa using hz)) (fun z hz hz2 => g z (by omega) (by
      cases k with
      | zero => omega
      | succ k => simpa using hz2))]
    rfl
theorem Ae1 {s : Str} : ∀ {l : List Str} {k : Nat}, SrtS l → l[k]? = some s → putS l s = l
  | y :: l, 0, hs, h => by
    simp at h; subst h
    unfold putS
    rw [if_neg (by rw [N6]; decide), if_pos rfl]
  | y :: l, k + 1, hs, h => by
    obtain ⟨h1, h2⟩ := List.pairwise_cons.1 hs
    have h3 : l[k]? = some s := by simpa using h
    have hy := h1 s (F9 h3)
    unfold putS
    rw [if_neg (fun e => by have := Q1 e hy; rw [N6] at this; cases this), if_neg (fun e => by rw [e, N6] at hy; cases hy), Ae1 h2 h3]
  | [], k, hs, h => by simp at h
theorem u9 (l o : List Str) (s : Str) : putAllS (l ++ [s]) o = putS (putAllS l o) s := by
  unfold putAllS; rw [List.foldl_append]; rfl
theorem r4 : ∀ (l o : List Str), (putAllS l o).length ≤ o.length + l.length
  | [], o => Nat.le_refl _
  | s :: l, o => by
    have h1 := r4 l (putS o s)
    have h2 := AF1 s o
    show (putAllS l (putS o s)).length ≤ _
    rw [I5]; omega
end Go.M

namespace Go.M
open Go.AV
def isTrue (t : Int) : Bool := within t 0 100000
def verGood (v : TVer) : Bool := isTime v.Time && isStored v.Val v.Gone
def verLess (a b : TVer) : Bool := decide (a.Time < b.Time)
def isCell (c : TCell) : Bool := (c.Vers.all verGood && adj verLess c.Vers) && within c.Vers.length 1 16
def cKeys (l : List TCell) : List Str := l.map TCell.Key
def goodCells (l : List TCell) : Bool := l.all isCell && (decide ((l.length : Int) ≤ 24) && areRising (cKeys l))
def verGoodS (k : Str) (v : TVer) : Bool := within v.Time 1 100000 && l3Write k v.Val v.Gone
def l3Cell (c : TCell) : Bool := (c.Vers.all (verGoodS c.Key) && adj verLess c.Vers) && (l3Key c.Key && within c.Vers.length 1 16)
def cLess (a b : TCell) : Bool := Op.bytesLess a.Key b.Key
def l3Good (l : List TCell) : Bool := (l.all l3Cell && adj cLess l) && decide ((l.length : Int) ≤ 24)
theorem Ah4 (c : TCell) : (isCell c && goodKey c.Key) = l3Cell c := by
  unfold isCell l3Cell
  rw [l5, Bool.eq_iff_iff]
  simp only [Bool.and_eq_true, List.all_eq_true]
  have key : ∀ v : TVer, l3Key c.Key = true → (verGood v = true ↔ verGoodS c.Key v = true) := fun v hk => by
    unfold verGood verGoodS isTime l3Write
    rw [AY2, hk, Bool.true_and]
  constructor
  · rintro ⟨⟨⟨h1, h2⟩, h3⟩, h4⟩
    exact ⟨⟨fun v hv => (key v h4).1 (h1 v hv), h2⟩, h4, h3⟩
  · rintro ⟨⟨h1, h2⟩, h4, h3⟩
    exact ⟨⟨⟨fun v hv => (key v h4).2 (h1 v hv), h2⟩, h3⟩, h4⟩
theorem e9 (l : List TCell) : goodCells l = l3Good l := by
  unfold goodCells l3Good areRising cKeys
  rw [AW5, Bool.eq_iff_iff]
  simp only [Bool.and_eq_true, List.all_eq_true, List.mem_map, forall_exists_index, and_imp, forall_apply_eq_imp_iff₂]
  constructor
  · rintro ⟨h1, h2, h3, h4⟩
    exact ⟨⟨fun c hc => by rw [← Ah4, h1 c hc, h3 c hc]; rfl, h4⟩, h2⟩
  · rintro ⟨⟨h1, h4⟩, h2⟩
    have h5 : ∀ c ∈ l, isCell c = true ∧ goodKey c.Key = true := fun c hc => by
      have := h1 c hc
      rw [← Ah4] at this
      simpa using this
    exact ⟨fun c hc => (h5 c hc).1, h2, fun c hc => (h5 c hc).2, h4⟩
theorem f8 {l : List TCell} (h : goodCells l = true) : l.length ≤ 24 ∧ adj cLess l = true ∧ ∀ c ∈ l, goodKey c.Key = true ∧ 1 ≤ c.Vers.length ∧ c.Vers.length ≤ 16 ∧ adj verLess c.Vers = true ∧ ∀ v ∈ c.Vers, verGood v = true := by
  have h0 := h
  rw [e9] at h
  unfold l3Good at h
  simp only [Bool.and_eq_true, List.all_eq_true, decide_eq_true_eq] at h
  refine ⟨by omega, h.1.2, fun c hc => ?_⟩
  have hcell := h.1.1 c hc
  rw [← Ah4] at hcell
  simp only [Bool.and_eq_true] at hcell
  obtain ⟨h1, h2⟩ := hcell
  unfold isCell at h1
  simp only [Bool.and_eq_true, List.all_eq_true] at h1
  have h3 := h1.2
  unfold within at h3
  simp at h3
  exact ⟨h2, by omega, by omega, h1.1.2, h1.1.1⟩
def cCmp (k : Str) (c : TCell) : Int := cmpStr c.Key k
def cPos (l : List TCell) (k : Str) : Nat := bs (cCmp k) l 0 l.length
def cHas (l : List TCell) (k : Str) : Bool := bsAt (cCmp k) l (cPos l k)
theorem l8 (a b c : TCell) (h : cLess a b = true) (k : cLess b c = true) : cLess a c = true := Q1 h k
theorem BL6 {l : List TCell} (h : adj cLess l = true) (k : Str) : (∀ i x, i < cPos l k → l[i]? = some x → Op.bytesLess x.Key k = true) ∧ (∀ x, l[cPos l k]? = some x → Op.bytesLess x.Key k = false) := by
  have := Ah2 (cCmp k) l (fun i j x y hij hx hy hf => by
    unfold cCmp at *
    rw [p8] at *
    exact Q1 (m5 l8 h hij hx hy) hf) l.length 0 l.length rfl (Nat.zero_le _) (Nat.le_refl _) (fun k x hk => by omega) (fun x hx => by rw [List.getElem?_eq_none (Nat.le_refl _)] at hx; cases hx)
  refine ⟨fun i x hi hx => (p8 _ _).1 (this.1 i x hi hx), fun x hx => ?_⟩
  have h2 := this.2 x hx
  unfold cCmp at h2
  rw [p8] at h2
  simpa using h2
theorem AN7 {l : List TCell} {k : Str} : cHas l k = true ↔ ∃ x, l[cPos l k]? = some x ∧ x.Key = k := by
  unfold cHas bsAt
  cases h : l[cPos l k]? with
  | none => simp
  | some x => simp [cCmp, AI0]
def findC (l : List TCell) (k : Str) : Option TCell := l.find? fun c => c.Key == k
theorem BL7 {l : List TCell} (ha : adj cLess l = true) {i j : Nat} {a b : TCell} (hi : l[i]? = some a) (hj : l[j]? = some b) (hk : a.Key = b.Key) : i = j := by
  rcases Nat.lt_trichotomy i j with hlt | heq | hgt
  · have h9 := m5 l8 ha hlt hi hj
    unfold cLess at h9; rw [hk, N6] at h9; cases h9
  · exact heq
  · have h9 := m5 l8 ha hgt hj hi
    unfold cLess at h9; rw [hk, N6] at h9; cases h9
theorem At2 {l : List TCell} (ha : adj cLess l = true) {i : Nat} {c : TCell} (hc : l[i]? = some c) : findC l c.Key = some c := by
  unfold findC
  cases hf : l.find? (fun x => x.Key == c.Key) with
  | none => have := List.find?_eq_none.1 hf c (F9 hc); simp at this
  | some d =>
    have h1 := List.find?_some hf
    obtain ⟨j, hj⟩ := List.getElem?_of_mem (List.mem_of_find?_eq_some hf)
    have := BL7 ha hj hc (by simpa using h1)
    subst this
    rw [hc] at hj; exact hj.symm
theorem Aa8 {l : List TCell} (h : adj cLess l = true) (k : Str) : findC l k = if cHas l k = true then l[cPos l k]? else none := by
  split
  · rename_i hh
    obtain ⟨x, hx, hk⟩ := AN7.1 hh
    rw [hx, ← hk]; exact At2 h hx
  · rename_i hh
    unfold findC
    rw [List.find?_eq_none]
    intro c hc hk
    simp only [beq_iff_eq] at hk
    obtain ⟨i, hi⟩ := List.getElem?_of_mem hc
    obtain ⟨h1, h2⟩ := BL6 h k
    rcases Nat.lt_trichotomy i (cPos l k) with hlt | heq | hgt
    · have := h1 i c hlt hi
      rw [hk, N6] at this; cases this
    · subst heq; exact hh (AN7.2 ⟨c, hi, hk⟩)
    · obtain ⟨y, hy⟩ := Go.AV.get_some (show cPos l k < l.length by have := (List.getElem?_eq_some_iff.1 hi).1; omega)
      have h3 := h2 y hy
      have h4 := m5 l8 h hgt hy hi
      unfold cLess at h4
      rw [hk, h3] at h4; cases h4
def atC (l : List TCell) (k : Str) : Int := match l.findIdx? (fun c => c.Key == k) with
  | some i => (i : Int)
  | none => -1
theorem At3 {l : List TCell} {k : Str} {i : Nat} {x : TCell} (hx : l[i]? = some x) (hk : x.Key = k) (h : ∀ j y, j < i → l[j]? = some y → y.Key ≠ k) : atC l k = (i : Int) := by
  have hl := (List.getElem?_eq_some_iff.1 hx)
  have : l.findIdx? (fun c => c.Key == k) = some i := by
    rw [List.findIdx?_eq_some_iff_getElem]
    refine ⟨hl.1, by rw [hl.2]; simp [hk], fun j hj => ?_⟩
    have hl1 := hl.1
    simpa using h j _ hj (List.getElem?_eq_getElem (show j < l.length by omega))
  unfold atC; rw [this]
theorem At4 {l : List TCell} {k : Str} (h : ∀ (j : Nat) (y : TCell), l[j]? = some y → y.Key ≠ k) : atC l k = -1 := by
  have : l.findIdx? (fun c => c.Key == k) = none := by
    rw [List.findIdx?_eq_none_iff]
    intro x hx
    obtain ⟨j, hj⟩ := List.getElem?_of_mem hx
    simpa using h j x hj
  unfold atC; rw [this]
theorem BD2 {l : List TCell} {k : Str} (h : atC l k < 0) : findC l k = none := by
  unfold atC at h
  cases hf : l.findIdx? (fun c => c.Key == k) with
  | some i => rw [hf] at h; simp at h; omega
  | none =>
    rw [List.findIdx?_eq_none_iff] at hf
    unfold findC
    rw [List.find?_eq_none]
    intro c hc; simp [hf c hc]
theorem BD3 {l : List TCell} {k : Str} (h : ¬ atC l k < 0) : ∃ (p : Nat) (c : TCell), atC l k = (p : Int) ∧ l[p]? = some c ∧ findC l k = some c := by
  cases hf : l.findIdx? (fun c => c.Key == k) with
  | none => exfalso; unfold atC at h; rw [hf] at h; exact h (by decide)
  | some i =>
    have he : atC l k = (i : Int) := by unfold atC; rw [hf]
    rw [List.findIdx?_eq_some_iff_getElem] at hf
    obtain ⟨h1, h2, h3⟩ := hf
    refine ⟨i, l[i], he, List.getElem?_eq_getElem h1, ?_⟩
    unfold findC
    rw [List.find?_eq_some_iff_getElem]
    exact ⟨h2, i, h1, rfl, fun j hj => by simpa using h3 j hj⟩
def lastV (c : TCell) : Int := match c.Vers.getLast? with
  | some v => v.Time
  | none => 0
def lastTime (l : List TCell) (k : Str) : Int := match findC l k with
  | some c => lastV c
  | none => 0
def cellVal (c : TCell) (t : Int) : Str × Bool := match c.Vers.reverse.find? (fun v => decide (v.Time ≤ t)) with
  | some v => (v.Val, !v.Gone)
  | none => ([], false)
def cellsAt (l : List TCell) (t : Int) : List TWrite := l.filterMap fun c => if (cellVal c t).2 = true then some ⟨c.Key, (cellVal c t).1, false⟩ else none
def cellsAtR (l : List TCell) (t : Int) : List TWrite × Bool := if (!goodCells l || !isTrue t) = true then ([], false) else (cellsAt l t, true)
def insC : List TCell → Str → TVer → List TCell
  | [], k, v => [⟨k, [v]⟩]
  | c :: l, k, v => if Op.bytesLess c.Key k = true then c :: insC l k v else if c.Key = k then ⟨k, c.Vers ++ [v]⟩ :: l else ⟨k, [v]⟩ :: c :: l
theorem Ah5 {k : Str} {v : TVer} : ∀ {l : List TCell} {p : Nat}, p ≤ l.length → (∀ i x, i < p → l[i]? = some x → Op.bytesLess x.Key k = true) → (∀ x, l[p]? = some x → Op.bytesLess x.Key k = false) →
    (∀ x, l[p]? = some x → x.Key = k → insC l k v = l.set p ⟨k, x.Vers ++ [v]⟩) ∧ ((∀ x, l[p]? = some x → x.Key ≠ k) → insC l k v = l.take p ++ ⟨k, [v]⟩ :: l.drop p)
  | [], p, hp, _, _ => by simp at hp; subst hp; exact ⟨fun x hx => by simp at hx, fun _ => rfl⟩
  | c :: l, 0, _, _, h2 => by
    have h := h2 c rfl
    unfold insC
    rw [h, if_neg (by decide)]
    refine ⟨fun x hx hk => ?_, fun hn => ?_⟩
    · simp at hx; subst hx; rw [if_pos hk]; rfl
    · rw [if_neg (hn c rfl)]; rfl
  | c :: l, p + 1, hp, h1, h2 => by
    have h := h1 0 c (by omega) rfl
    obtain ⟨i1, i2⟩ := Ah5 (k := k) (v := v) (l := l) (p := p) (by simpa using hp) (fun i y hi hy => h1 (i + 1) y (by omega) (by simpa using hy)) (fun y hy => h2 y (by simpa using hy))
    unfold insC
    rw [if_pos h]
    refine ⟨fun x hx hk => ?_, fun hn => ?_⟩
    · rw [i1 x (by simpa using hx) hk]; rfl
    · rw [i2 fun x hx => hn x (by simpa using hx)]; rfl
def putC1 (l : List TCell) (x : TWrite) (t : Int) : List TCell := insC l x.Key ⟨t, x.Val, x.Gone⟩
def putAll (l : List TCell) : List TWrite → Int → Option (List TCell)
  | [], _ => some l
  | x :: w, t => if decide (t ≤ lastTime l x.Key) = true then none else putAll (putC1 l x t) w t
def putCells (l : List TCell) (w : List TWrite) (t : Int) : List TCell × Bool := match putAll l w t with
  | none => ([], false)
  | some out => if (!goodCells out) = true then ([], false) else (out, true)
def CellsOk (l : List TCell) : Prop := adj cLess l = true ∧ ∀ c ∈ l, 1 ≤ c.Vers.length
theorem a6 {l : List TCell} (h : goodCells l = true) : CellsOk l := ⟨(f8 h).2.1, fun c hc => ((f8 h).2.2 c hc).2.1⟩
def putP (l : List TCell) (w : List TWrite) (t : Int) : List TCell × Bool := match putAll l w t with
  | none => ([], false)
  | some out => (out, l3Good out)
def TCell.ocs (c : TCell) (x : Value) : List AV := [AV.str c.Key, AV.is x]
theorem BL8 (d : TCell) : ∀ (l : List TCell) (k : Str) (v : TVer), ∃ c r, insC (d :: l) k v = c :: r ∧ (c.Key = d.Key ∨ c.Key = k) := fun l k v => by
  unfold insC
  split
  · exact ⟨_, _, rfl, Or.inl rfl⟩
  · split
    · exact ⟨_, _, rfl, Or.inr rfl⟩
    · exact ⟨_, _, rfl, Or.inr rfl⟩
theorem u4 {α : Type} {p : α → α → Bool} {x y : α} {l : List α} : adj p (x :: y :: l) = (p x y && adj p (y :: l)) := rfl
theorem Aa9 (k : Str) (v : TVer) : ∀ {l : List TCell}, adj cLess l = true → adj cLess (insC l k v) = true
  | [], _ => rfl
  | [c], _ => by
    unfold insC
    by_cases h1 : Op.bytesLess c.Key k = true
    · rw [if_pos h1]; unfold insC; simpa [adj, cLess] using h1
    · rw [if_neg h1]
      by_cases h2 : c.Key = k
      · rw [if_pos h2]; rfl
      · rw [if_neg h2]
        have := T4 k c.Key
        simp [adj, cLess]
        simp_all
  | c :: d :: l, h => by
    rw [u4, Bool.and_eq_true] at h
    have ih := Aa9 k v (l := d :: l) h.2
    unfold insC
    by_cases h1 : Op.bytesLess c.Key k = true
    · rw [if_pos h1]
      obtain ⟨e, r, he, hk⟩ := BL8 d l k v
      rw [he] at ih ⊢
      rw [u4, ih, Bool.and_true]
      have h3 := h.1
      unfold cLess at *
      rcases hk with hk | hk
      · rw [hk]; exact h3
      · rw [hk]; exact h1
    · rw [if_neg h1]
      by_cases h2 : c.Key = k
      · rw [if_pos h2, u4, h.2, Bool.and_true]
        have h3 := h.1
        unfold cLess at *
        rw [← h2]; exact h3
      · rw [if_neg h2, u4, u4, h.1, h.2, Bool.and_true, Bool.and_true]
        have := T4 k c.Key
        unfold cLess
        simp_all
theorem Al1 (k : Str) (v : TVer) : ∀ {l : List TCell}, (∀ c ∈ l, 1 ≤ c.Vers.length) → ∀ c ∈ insC l k v, 1 ≤ c.Vers.length
  | [], _, c, hc => by unfold insC at hc; simp at hc; subst hc; simp
  | d :: l, h, c, hc => by
    have hd := h d List.mem_cons_self
    have hl := fun c hc => h c (List.mem_cons_of_mem _ hc)
    unfold insC at hc
    split at hc
    · rcases List.mem_cons.1 hc with e | e
      · subst e; exact hd
      · exact Al1 k v hl c e
    · split at hc
      · rcases List.mem_cons.1 hc with e | e
        · subst e; simp
        · exact hl c e
      · rcases List.mem_cons.1 hc with e | e
        · subst e; simp
        · exact h c e
theorem r5 {l : List TCell} (h : CellsOk l) (k : Str) (v : TVer) : CellsOk (insC l k v) := ⟨Aa9 k v h.1, Al1 k v h.2⟩
theorem N7 {α : Type} {f : α → Nat} {x : α} {l : List α} : sizeL f (x :: l) = 1 + f x + sizeL f l := by unfold sizeL; simp; omega
theorem o9 {α : Type} {f : α → Nat} {l r : List α} : sizeL f (l ++ r) = sizeL f l + sizeL f r := by unfold sizeL; simp; omega
theorem Al2 (k : Str) (v : TVer) : ∀ {l : List TCell}, sizeL TCell.size (insC l k v) ≤ sizeL TCell.size l + (2 + k.length + v.Val.length)
  | [] => by unfold insC; simp only [N7, TCell.size, TVer.size]; unfold sizeL; simp; omega
  | d :: l => by
    have ih := Al2 k v (l := l)
    unfold insC
    split
    · simp only [N7]; omega
    · split
      · rename_i h; subst h
        simp only [N7, TCell.size, o9, TVer.size]; unfold sizeL; simp; omega
      · simp only [N7, TCell.size, TVer.size]; unfold sizeL; simp; omega
theorem v8 (l : List TCell) (x : TWrite) (t : Int) : sizeL TCell.size (putC1 l x t) ≤ sizeL TCell.size l + (2 + x.size) := by
  unfold putC1 TWrite.size
  have := Al2 x.Key ⟨t, x.Val, x.Gone⟩ (l := l)
  simp only at this; omega
theorem Ao4 {l : List TCell} {k : Str} (h : ∀ c ∈ l, c.Key ≠ k) : lastTime l k = 0 := by
  have : findC l k = none := by
    unfold findC; rw [List.find?_eq_none]; intro c hc; simpa using h c hc
  unfold lastTime; rw [this]
theorem scan_has {l : List TCell} {k : Str} {q : Nat} {c : TCell} (ha : adj cLess l = true) (hc : l[q]? = some c) (hk : c.Key = k) (v : TVer) : insC l k v = l.set q ⟨k, c.Vers ++ [v]⟩ := by
  have hq := (List.getElem?_eq_some_iff.1 hc).1
  refine (Ah5 (k := k) (v := v) (l := l) (p := q) (by omega) (fun i x hi hx => ?_) (fun x hx => ?_)).1 c hc hk
  · have := m5 l8 ha hi hx hc
    unfold cLess at this; rw [hk] at this; exact this
  · rw [hc] at hx; injection hx with hx; subst hx; rw [hk]; exact N6 _
theorem scan_new {l : List TCell} {k : Str} {q : Nat} (ha : adj cLess l = true) (hq : q ≤ l.length) (h1 : ∀ j x, q ≤ j → l[j]? = some x → Op.bytesLess k x.Key = true) (h2 : ∀ x, 0 < q → l[q - 1]? = some x → Op.bytesLess x.Key k = true) (v : TVer) : (insC l k v = l.take q ++ ⟨k, [v]⟩ :: l.drop q) ∧ lastTime l k = 0 := by
  have hlo : ∀ i x, i < q → l[i]? = some x → Op.bytesLess x.Key k = true := fun i x hi hx => by
    obtain ⟨y, hy⟩ := Go.AV.get_some (show q - 1 < l.length by omega)
    have h3 := h2 y (by omega) hy
    rcases Nat.lt_or_ge i (q - 1) with hlt | hge
    · have := m5 l8 ha hlt hx hy
      exact Q1 this h3
    · have : i = q - 1 := by omega
      subst this; rw [hx] at hy; injection hy with hy; subst hy; exact h3
  have hhi : ∀ x, l[q]? = some x → Op.bytesLess x.Key k = false := fun x hx => by
    have := h1 q x (Nat.le_refl _) hx
    have h3 := T4 x.Key k
    rw [this] at h3; simpa using h3
  refine ⟨(Ah5 (k := k) (v := v) hq hlo hhi).2 fun x hx hk => ?_, Ao4 fun c hc hk => ?_⟩
  · have := h1 q x (Nat.le_refl _) hx
    rw [hk, N6] at this; cases this
  · obtain ⟨i, hi⟩ := List.getElem?_of_mem hc
    rcases Nat.lt_or_ge i q with hlt | hge
    · have := hlo i c hlt hi
      rw [hk, N6] at this; cases this
    · have := h1 i c hge hi
      rw [hk, N6] at this; cases this
def zV : TVer := ⟨0, [], false⟩
def verAt (l : List TVer) (t : Int) : Option TVer := l.reverse.find? fun v => decide (v.Time ≤ t)
theorem BG0 {l : List TVer} {i : Nat} {x : TVer} {t : Int} (hx : l[i]? = some x) : verAt (l.take (i + 1)) t = if x.Time ≤ t then some x else verAt (l.take i) t := by
  unfold verAt
  rw [List.take_add_one, hx, Option.toList_some, List.reverse_append]
  show List.find? _ (x :: (l.take i).reverse) = _
  rw [List.find?_cons]
  by_cases h : x.Time ≤ t
  · rw [if_pos h, decide_eq_true h]
  · rw [if_neg h, decide_eq_false h]
theorem Ao5 (c : TCell) (t : Int) : cellVal c t = (((verAt c.Vers t).getD zV).Val, (verAt c.Vers t).isSome && !((verAt c.Vers t).getD zV).Gone) := by
  unfold cellVal verAt
  cases c.Vers.reverse.find? (fun v => decide (v.Time ≤ t)) <;> rfl
theorem AS5 {l : List TCell} {i : Nat} {x : TCell} {t : Int} (hx : l[i]? = some x) : cellsAt (l.take (i + 1)) t = cellsAt (l.take i) t ++ (if (cellVal x t).2 = true then [⟨x.Key, (cellVal x t).1, false⟩] else []) := by
  unfold cellsAt
  rw [List.take_add_one, hx, Option.toList_some, List.filterMap_append]
  congr 1
  simp only [List.filterMap_cons, List.filterMap_nil]
  split <;> simp_all
theorem l9 (l : List TCell) (t : Int) : (cellsAt l t).length ≤ l.length := by unfold cellsAt; exact List.length_filterMap_le _ _
end Go.M

namespace Go.M
open Go.AV
def TRec.ocs (c : TRec) (x : Value × Value) : List AV := [AV.int c.Kind, AV.int c.Txn, AV.int c.Time, AV.int c.Lead, AV.is x.1, AV.is x.2, AV.bool c.Yes]
def TPlaces.ocs (c : TPlaces) (x : Value × Value) : List AV := [AV.int c.Ver, AV.is x.1, AV.is x.2]
def TMove.ocs (c : TMove) (x : Value × Value) : List AV := [AV.str c.Low, AV.str c.High, AV.int c.Phase, AV.is x.1, AV.is x.2, AV.str c.Last, AV.bool c.Over]
end Go.M

namespace Go.AV
section
variable {P : Program} {G : Nat → Prop} {n : Nat} {own : List Own}
theorem y9 {t : List Own} {env : List (Nat × AV)} (k : Nat) (h : (own.drop k).Perm t) : Le G n ⟨own, env⟩ ⟨own.take k ++ t, env⟩ :=
  le_perm (by
    have := List.Perm.append_left (own.take k) h
    rw [List.take_append_drop] at this
    exact this)
theorem z6 {t : List Own} : t.Perm (t ++ []) := by rw [List.append_nil]
theorem perm_lin {t : List Own} : (t ++ []).Perm t := by rw [List.append_nil]
theorem Ae2 {sel rest : List Own} {is : List Nat} (h : pick own is = (sel, rest)) : own.Perm (sel ++ rest) := by
  induction is generalizing own sel rest with
  | nil => unfold pick at h; injection h with h1 h2; subst h1; subst h2; exact List.Perm.refl _
  | cons i is ih =>
    unfold pick at h
    cases hi : own[i]? with
    | none => rw [hi] at h; injection h with h1 h2; subst h1; subst h2; exact List.Perm.refl _
    | some x =>
      rw [hi] at h
      injection h with h1 h2; subst h1; subst h2
      exact (AM8 hi).trans (List.Perm.cons x (ih rfl))
section
variable {o : Oper} {E : EnvF}
theorem opE_make {ops : Array Oper} {t e : TypeId} {p q : Operand} {sz by' m : Nat} {inf : TypeInfo} {z : Value} (ho : o.op = .makeSlice t p q)
    (ht : P.underlying t = some (.slice e)) (hinf : P.info? e = some inf) (hz : inf.zero = some z) (hsz : inf.size = sz) (hby : inf.bytes = by') (hzs : z.cells.size = sz) (hpos : Nat.ble 1 sz = true) (h1' : z.cells.toList.all Value.oneCell' = true) (hp : Ev E p (AV.int m)) (hq : Ev E q (AV.int m))
    (hlen : m * by' ≤ 281474976710656) (hlen2 : m ≤ 281474976710656) : OpE P G n own ops o E (fun _ : Value => True) (fun v' => own ++ [.arr v' e sz (List.replicate m (z.cells.toList.map zeroA))]) (fun v' => AV.is v') :=
  fun w0 R0 R a w h1 h3 h2 => by
    have e1 : a.eval p = .int .i64 m := s5 (ops := ops) hp (by simp [ho, Op.operands]) h2
    have e2 : a.eval q = .int .i64 m := s5 (ops := ops) hq (by simp [ho, Op.operands]) h2
    have hb1 := Nat.le_of_ble_eq_true hpos
    have hr := run_make (P := P) w t e inf z ht hinf hz .i64 .i64 (m : Int) (m : Int) (by omega) (by omega) (by rw [hby]; have h9 : ((m * by' : Nat) : Int) ≤ 281474976710656 := by omega
                                                                                                                rw [Int.natCast_mul] at h9; rw [Int.mul_comm]; exact h9) (by omega)
    simp only [Int.toNat_natCast] at hr
    have hex : (execOp a.eval o).run P w = .ok (.value (.slice (some ⟨w.heap.size, 0, none⟩) m m)) (w.alloc (.cells (madeCells z.cells (m * inf.size)) e)) := by
      simp only [execOp, ho, e1, e2, hr, Sem.run_bind, Sem.run_pure, Result.andThen_ok]
    unfold Oper.wp
    rw [hex, Oper.upon_value]
    have hms : (madeCells z.cells (m * inf.size)).size = m * sz := by rw [size_madeCells, hsz]
    refine ⟨_, _, R, trivial, rfl, Z4 (j4 h1 (by simp) (Nat.le_refl _) (by unfold maxLen; omega) hms (fun x hx => ?_) ⟨?_, fun j v x hv hx => ?_⟩) (List.perm_append_comm (l₁ := [_])), RSub.refl _, rfl⟩
    · rw [(List.mem_replicate.1 hx).2]; simp [hzs]
    · rw [V6 (sz := sz) (fun x hx => by rw [(List.mem_replicate.1 hx).2]; simp [hzs])]
      simp [hms]
    · have hj : j < m * sz := by
        have := (List.getElem?_eq_some_iff.1 hx).1
        rw [V6 (sz := sz) (fun x hx => by rw [(List.mem_replicate.1 hx).2]; simp [hzs])] at this
        simpa using this
      have hjm : j % sz < sz := Nat.mod_lt _ (by omega)
      have hjj : j / sz * sz + j % sz = j := by rw [Nat.mul_comm]; exact Nat.div_add_mod j sz
      have hjd : j / sz < m := Nat.div_lt_of_lt_mul (by rw [Nat.mul_comm]; exact hj)
      have hzj : z.cells.toList[j % sz]? = some (z.cells.toList[j % sz]'(by simp [hzs]; exact hjm)) := List.getElem?_eq_getElem _
      have hx2 := Y6 (sz := sz) (es := List.replicate m (z.cells.toList.map zeroA)) (fun x hx => by rw [(List.mem_replicate.1 hx).2]; simp [hzs]) (i := j / sz) (e := z.cells.toList.map zeroA) (by rw [List.getElem?_replicate, if_pos hjd]) (k := j % sz) (x := zeroA (z.cells.toList[j % sz]'(by simp [hzs]; exact hjm))) (by rw [List.getElem?_map, hzj]; rfl)
      rw [hjj, hx] at hx2
      injection hx2 with hx2
      rw [List.getElem?_take_of_lt hj] at hv
      have hv2 : v = z.cells.toList[j % sz]'(by simp [hzs]; exact hjm) := by
        unfold madeCells at hv
        rw [hsz] at hv
        simp only [Array.toList_map, Array.toList_range, List.getElem?_map, List.getElem?_range hj, Option.map_some, Option.some.injEq] at hv
        rw [← hv, hzs, getElem!_pos z.cells _ (by rw [hzs]; exact hjm)]
        simp
      rw [hx2, hv2]
      exact ⟨i5 R _, List.all_eq_true.1 h1' _ (by simp)⟩
end
section
variable {α : Type} {ok : α → Prop} {O : α → List Own} {V : α → AV} {o : Oper}
theorem BL9 {ops : Array Oper} {rs : List Oper} {env : List (Nat × AV)} {K : AState → Prop} {d : Nat} {f : FuncId} {args : Array Operand} {tys : Array TypeId} {ps : List Operand} {xs : List AV} {sel rest : List Own} {own' : α → List Own} (hg : o.guard = none) (ho : o.op = .call { callee := .value (.func f), args := args, argTypes := tys }) (hd : o.dst = some d) (hn : Nat.blt d n = true)
    (hc : ∀ (vs : Array Value) (w : World), (callFunc f vs).run P w = .ok (.enter f vs) w) (hps : args.toList = ps) (hp : own.Perm (sel ++ rest)) (hs : GSpec P f xs sel ok O V) (he : EvL (getv · env) ps xs) (hq : ∀ a, (O a ++ rest).Perm (own' a))
    (k : ∀ a, ok a → ASeq P G n ops rs ⟨own' a, (d, V a) :: env⟩ K) : ASeq P G n ops (o :: rs) ⟨own, env⟩ K :=
  X9 hg fun w0 R0 R a w ⟨h1, h2, h3, h4⟩ => by
    have hcore := Z4 h1 hp
    have hden := w7 (o := o) (fun t _ y hy => h2 t y hy) he fun p hp => by simp [ho, Op.operands, Call.operands]; right; rw [← hps] at hp; exact Array.mem_toList_iff.1 hp
    have hrun : (execOp a.eval o).run P w = .ok (.enter f (ps.map a.eval).toArray) w := by
      have hargs : args.map a.eval = (ps.map a.eval).toArray := by rw [← hps]; cases args; simp
      simp only [execOp, ho, resolve, hargs, show a.eval (.func f) = .func (.func f) #[] #[] from rfl]
      simp [Deferred.ofValue, invoke, hc]
    unfold Oper.wp
    rw [hrun, Oper.upon_enter]
    refine (hs R w _ hcore.rle hden (fun q hq => hcore.owned q (List.mem_append_left _ hq)) (W9 hcore).sep).mono fun e w' ⟨x, v, R', e0, e1, e2, e3⟩ => ?_
    subst e1
    have hR := n8 hcore.rle e3.rold
    refine ⟨⟨own' x, (d, V x) :: env⟩, R', k x e0, hR, Z4 (AC9 hcore e3) (hq x), ?_, by rw [V1]; exact h3, by rw [R9]; exact h4⟩
    rw [hd]
    exact Z3 h2 hR (by rw [h3]; exact Nat.blt_eq.mp hn) e2
theorem AE2 {ops : Array Oper} {E : EnvF} {rest : List Own} (m : Nat) (h : OpE P G n own ops o E ok (fun a => rest ++ O a) V) : OpE P G n own ops o E ok (fun a => rest.take m ++ (O a ++ rest.drop m)) V := fun w0 R0 R a w h1 h2 h3 =>
  Oper.wp_mono2 (fun a' w' ⟨x, v, R', e0, e1, e2, e3, e4⟩ => ⟨x, v, R', e0, e1, Z4 e2 (by
    show (rest ++ O x).Perm (rest.take m ++ (O x ++ rest.drop m))
    conv => lhs; rw [← List.take_append_drop m rest]
    rw [List.append_assoc]
    exact List.Perm.append_left _ List.perm_append_comm), e3, e4⟩) (fun _ _ _ h => h) (h w0 R0 R a w h1 h2 h3)
theorem i9 {ops : Array Oper} {E : EnvF} {W' : α → List Own} {g : α → Value} {e : TypeId} {sz : Nat} {es : List (List AV)} (i : Nat) (hg : ∀ a, (W' a)[i]? = some (.arr (g a) e sz es)) (h : OpE P G n own ops o E ok W' V) : OpE P G n own ops o E (fun a => ok a ∧ (g a).oneCell' = true) W' V := fun w0 R0 R a w h1 h2 h3 =>
  Oper.wp_mono2 (fun a' w' ⟨x, v, R', e0, e1, e2, e3, e4⟩ => ⟨x, v, R', ⟨e0, BC4 (e2.owned _ (F9 (hg x)))⟩, e1, e2, e3, e4⟩) (fun _ _ _ h => h) (h w0 R0 R a w h1 h2 h3)
theorem X4 {ops : Array Oper} {E : EnvF} {t : TypeId} {z : Value} (ho : o.op = .alloc t)
    (hz : ∀ w, (zeroValue t).run P w = .ok z w) (h1' : z.cells.toList.all Value.oneCell' = true) : OpE P G n own ops o E (fun _ : Nat => True) (fun b => own ++ [.box b t (z.cells.toList.map zeroA)]) (fun b => AV.ptr b 0) :=
  fun w0 R0 R a w h1 h3 h2 => by
    have hrun : (execOp a.eval o).run P w = .ok (.value (.pointer (some ⟨w.heap.size, 0, none⟩))) (w.alloc (.cells z.cells.toList.toArray t)) := by
      simp only [execOp, ho, Instr.alloc, newVar, newRow, hz, Array.toArray_toList, Sem.run_bind, Sem.run_pure, Result.andThen_ok, run_newObj, World.alloc_eq]
    unfold Oper.wp
    rw [hrun, Oper.upon_value]
    exact ⟨w.heap.size, _, R, trivial, rfl, Z4 (AM2 h1 ⟨by simp, fun i v y hv hy => by
      rw [List.getElem?_map, hv] at hy
      simp at hy; subst hy
      exact ⟨i5 R v, List.all_eq_true.1 h1' v (F9 hv)⟩⟩) (List.perm_append_comm (l₁ := [_])), RSub.refl _, rfl⟩
theorem W7 {ops : Array Oper} {E : EnvF} {t t' : TypeId} {p q : Operand} {b : Nat} {cs ys : List AV} {x : AV} (i : Nat) (ho : o.op = .store t p q) (hd : o.dst = none)
    (hp : Ev E p (AV.ptr b 0)) (hq : Ev E q x) (hx : AsCells x ys) (hi : own[i]? = some (.box b t' cs)) (hs : ∀ w, (sizeOf t).run P w = .ok ys.length w) (hl' : Nat.beq ys.length cs.length = true) : OpE P G n own ops o E (fun _ : Unit => True) (fun _ => own.set i (.box b t' ys)) (fun _ => AV.int 0) :=
  fun w0 R0 R a w h1 h3 h2 => by
    have e1 : a.eval p = .pointer (some ⟨b, 0, none⟩) := s5 (ops := ops) hp (by simp [ho, Op.operands]) h2
    have e2 := hx R _ (s5 (ops := ops) hq (by simp [ho, Op.operands]) h2)
    have e := Nat.eq_of_beq_eq_true hl'
    obtain ⟨hR, vs, hb, hdc⟩ := h1.owned _ (F9 hi)
    have hsz : (a.eval q).cells.size = ys.length := by rw [← Array.length_toList]; exact e2.1
    have hst := AA7 (P := P) (t := t) (off := 0) (u := a.eval q) hb (by rw [hsz]; exact hs w) (by rw [hsz, hdc.1]; omega) (fun u hu => by
      obtain ⟨j, hj⟩ := List.getElem?_of_mem hu
      have hjl : j < ys.length := by rw [← e2.1]; exact (List.getElem?_eq_some_iff.1 hj).1
      exact (e2.2 j u _ hj (List.getElem?_eq_getElem hjl)).2)
    have hrun : (execOp a.eval o).run P w = .ok .skip (w.setRow b (vs.take 0 ++ (a.eval q).cells.toList ++ vs.drop (0 + (a.eval q).cells.size)).toArray) := by
      simp only [execOp, ho, e1, hst, Sem.run_bind, Sem.run_pure, Result.andThen_ok]
    unfold Oper.wp
    rw [hrun, Oper.upon_skip, hd]
    refine ⟨(), .int .i64 0, R, trivial, rfl, s4 h1 hi rfl rfl ⟨hR, _, setRow_heap w b _ _ t' _ hb, ?_⟩ (j0 w b _), RSub.refl _, rfl⟩
    rw [← Array.length_toList]
    have := q8 (off := 0) hdc e2 (by omega)
    rw [Ad2 e] at this
    exact this
theorem BM0 {ops : Array Oper} {rs : List Oper} {env : List (Nat × AV)} {K : AState → Prop} {d : Nat} {f : FuncId} {args : Array Operand} {tys : Array TypeId} {ps : List Operand} {xs : List AV} {s1 r1 : List Own} (is : List Nat) (m j : Nat) (B D : List Own) (NT : α → List Own) (hg : o.guard = none) (ho : o.op = .call { callee := .value (.func f), args := args, argTypes := tys }) (hd : o.dst = some d) (hn : Nat.blt d n = true)
    (hc : ∀ (vs : Array Value) (w : World), (callFunc f vs).run P w = .ok (.enter f vs) w) (hps : args.toList = ps) (hp : pick own is = (s1, r1)) (hB : (r1.drop m).Perm (B ++ D)) (hs : GSpec P f xs (s1 ++ B) ok O V) (he : EvL (getv · env) ps xs) (hN : ∀ a, ((O a).drop j ++ D).Perm (NT a))
    (k : ∀ a, ok a → ASeq P G n ops rs ⟨(O a).take j ++ (r1.take m ++ NT a), (d, V a) :: env⟩ K) : ASeq P G n ops (o :: rs) ⟨own, env⟩ K := by
  refine BL9 (sel := s1 ++ B) (rest := r1.take m ++ D) (own' := fun a => (O a).take j ++ (r1.take m ++ NT a)) hg ho hd hn hc hps ?_ hs he (fun a => ?_) k
  · refine (Ae2 hp).trans ?_
    have h1 : r1.Perm (r1.take m ++ (B ++ D)) := by
      have := List.Perm.append_left (r1.take m) hB
      rwa [List.take_append_drop] at this
    refine (List.Perm.append_left s1 h1).trans ?_
    rw [List.append_assoc]
    refine List.Perm.append_left s1 ?_
    rw [← List.append_assoc, ← List.append_assoc]
    exact List.Perm.append_right D List.perm_append_comm
  · have h1 : (O a ++ (r1.take m ++ D)).Perm ((O a).take j ++ (r1.take m ++ ((O a).drop j ++ D))) := by
      conv => lhs; rw [← List.take_append_drop j (O a)]
      rw [List.append_assoc]
      refine List.Perm.append_left _ ?_
      rw [← List.append_assoc, ← List.append_assoc]
      exact List.Perm.append_right D List.perm_append_comm
    exact h1.trans (List.Perm.append_left _ (List.Perm.append_left _ (hN a)))
theorem AW7 {fn : Func} {s : AState} {sel rest : List Own} (is : List Nat) (m : Nat) (B D : List Own) (x : α) (hx : ok x) (hp : pick s.own is = (sel, rest)) (hB : (rest.drop m).Perm (B ++ D)) (ho : O x = sel ++ B) (h : ∀ w0 R0 R a w, St G n w0 R0 s R a w → ∃ v, (results fn a.tmps).run P w = .ok v w ∧ (V x).den R v) : RetOkG P G n fn s ok O V := fun w0 R0 R a w hs => by
  obtain ⟨v, h1, h2⟩ := h w0 R0 R a w hs
  refine ⟨x, v, R, hx, h1, h2, RSub.refl _, ?_⟩
  rw [ho]
  refine W9 (b := rest.take m ++ D) (Z4 hs.1 ?_)
  refine (Ae2 hp).trans ?_
  have h1 : rest.Perm (rest.take m ++ (B ++ D)) := by
    have := List.Perm.append_left (rest.take m) hB
    rwa [List.take_append_drop] at this
  refine (List.Perm.append_left sel h1).trans ?_
  rw [List.append_assoc]
  refine List.Perm.append_left sel ?_
  rw [← List.append_assoc, ← List.append_assoc]
  exact List.Perm.append_right D List.perm_append_comm
end
end
inductive OT where
  | nil
  | pure (i : Nat) (t : OT)
  | e1 (i : Nat) (t : OT)
  | e2 (i : Nat) (t : OT) (j : Nat) (u : OT)
def OT.deep : OT → Nat → Bool
  | .nil, 0 => true
  | .pure _ t, f + 1 => t.deep f
  | .e1 _ t, f + 1 => t.deep f
  | .e2 _ t _ u, f + 1 => t.deep f && u.deep f
  | _, _ => false
def ordT (md : Region.Mode) (ops : Array Oper) (g m : Nat) : OT → Array Bool → Bool
  | .nil, listed => Region.seqB md ops g m listed
  | .pure i r, listed => (Region.ready md ops listed).contains i && Region.free md ops listed i && Nat.blt i m && ordT md ops g m r (listed.setIfInBounds i true)
  | .e1 i r, listed => decide (Region.ready md ops listed = [i]) && Nat.blt i m && ordT md ops g m r (listed.setIfInBounds i true)
  | .e2 i r j u, listed => decide (Region.ready md ops listed = [i, j]) && Nat.blt i m && Nat.blt j m && ordT md ops g m r (listed.setIfInBounds i true) && ordT md ops g m u (listed.setIfInBounds j true)
def treeB (md : Region.Mode) (ops : Array Oper) (m : Nat) (ord : OT) : Bool :=
  decide (m < ops.size) && ord.deep m && Region.sinkB md ops m && Region.chainB md ops m && ordT md ops (ops.size - m) m ord (Array.replicate ops.size false)
section
variable {P : Program} {G : Nat → Prop} {n : Nat}
def EffS (P : Program) (G : Nat → Prop) (n : Nat) (Inv : List Own → Prop) (ops : Array Oper) (i : Nat) (env : List (Nat × AV)) (W : List Own) (K : List (Nat × AV) → List Own → Prop) : Prop :=
  ∃ o, ops[i]? = some o ∧ o.guard = none ∧ ∃ (α : Type) (ok : α → Prop) (W' : α → List Own) (V : α → AV), OpE P G n W ops o (getv · env) ok W' V ∧ (∀ a, ok a → Inv (W' a)) ∧ ∀ a, ok a → K (putv o.dst (V a) env) (W' a)
def BT (P : Program) (G : Nat → Prop) (n : Nat) (Inv : List Own → Prop) (ops : Array Oper) : OT → List (Nat × AV) → List Own → (List (Nat × AV) → List Own → Prop) → Prop
  | .nil, env, W, K => K env W
  | .pure i r, env, W, K => ∃ o, ops[i]? = some o ∧ ∃ x, (∀ W', Inv W' → OpA P G n W' ops o (getv · env) x) ∧ BT P G n Inv ops r (putv o.dst x env) W K
  | .e1 i r, env, W, K => EffS P G n Inv ops i env W fun env' W' => BT P G n Inv ops r env' W' K
  | .e2 i r j u, env, W, K => (EffS P G n Inv ops i env W fun env' W' => BT P G n Inv ops r env' W' K) ∧ EffS P G n Inv ops j env W fun env' W' => BT P G n Inv ops u env' W' K
theorem AB8 {Inv : List Own → Prop} {md : Region.Mode} {ops : Array Oper} {m g : Nat} {K : List (Nat × AV) → List Own → Prop} (hs : Region.sinkB md ops m = true) (hc : Region.chainB md ops m = true) (hn : m < ops.size) :
    ∀ (l : OT) (f : Nat) (listed : Array Bool) (env : List (Nat × AV)) (W : List Own), l.deep f = true → HeadInv md ops m listed → Inv W →
    ordT md ops g m l listed = true → BT P G n Inv ops l env W K →
    wpAnyB P G n Inv md ops m (fun listed' E W => Region.seqB md ops g m listed' = true ∧ ∃ env', E = (getv · env') ∧ K env' W) f listed (getv · env) W
  | .nil, 0, listed, env, W, _, _, _, hB, h => ⟨hB, env, rfl, h⟩
  | .nil, _ + 1, _, _, _, hdp, _, _, _, _ => by cases hdp
  | .pure _ _, 0, _, _, _, hdp, _, _, _, _ => by cases hdp
  | .e1 _ _, 0, _, _, _, hdp, _, _, _, _ => by cases hdp
  | .e2 _ _ _ _, 0, _, _, _, hdp, _, _, _, _ => by cases hdp
  | .pure i l, f + 1, listed, env, W, hdp, inv, hW, hB, h => by
    simp only [ordT, Bool.and_eq_true] at hB
    obtain ⟨⟨⟨hr, hf⟩, hlt⟩, hB'⟩ := hB
    have hkn : i < m := Nat.blt_eq.mp hlt
    have hr' : i ∈ Region.ready md ops listed := by simpa using hr
    obtain ⟨o, ho, x, hx, hK⟩ := h
    refine AR8 ho hs hc hn hkn (fun listed' E W hL => seqB_ready hL.1) f listed _ W inv hW (Region.free_spec ho hf) hr' hx ?_
    rw [← e6]
    exact AB8 hs hc hn l f _ _ W hdp (inv.set hr' hkn) hW hB' hK
  | .e1 i l, f + 1, listed, env, W, hdp, inv, hW, hB, h => by
    simp only [ordT, Bool.and_eq_true, decide_eq_true_eq] at hB
    obtain ⟨⟨hr, hlt⟩, hB'⟩ := hB
    have hkn : i < m := Nat.blt_eq.mp hlt
    have hr' : i ∈ Region.ready md ops listed := by rw [hr]; simp
    obtain ⟨o, ho, hg, α, ok, W', V, h1, h2, h3⟩ := h
    refine ⟨fun h0 => (by rw [h0] at hr'; cases hr'), fun j hj => ?_⟩
    rw [hr] at hj
    have : j = i := by simpa using hj
    subst this
    refine ⟨hkn, ?_⟩
    unfold qB
    simp only [ho]
    refine .inr ⟨hg, α, ok, W', V, h1, h2, fun a ha => ?_⟩
    rw [← e6]
    exact AB8 hs hc hn l f _ _ (W' a) hdp (inv.set hr' hkn) (h2 a ha) hB' (h3 a ha)
  | .e2 i l k u, f + 1, listed, env, W, hdp, inv, hW, hB, h => by
    simp only [ordT, Bool.and_eq_true, decide_eq_true_eq] at hB
    obtain ⟨⟨⟨⟨hr, hlt⟩, hlt2⟩, hB'⟩, hB2⟩ := hB
    simp only [OT.deep, Bool.and_eq_true] at hdp
    have hkn : i < m := Nat.blt_eq.mp hlt
    have hkn2 : k < m := Nat.blt_eq.mp hlt2
    have hr' : i ∈ Region.ready md ops listed := by rw [hr]; simp
    have hr2 : k ∈ Region.ready md ops listed := by rw [hr]; simp
    obtain ⟨⟨o, ho, hg, α, ok, W', V, h1, h2, h3⟩, ⟨o', ho', hg', α', ok', W'', V', h1', h2', h3'⟩⟩ := h
    refine ⟨fun h0 => (by rw [h0] at hr'; cases hr'), fun j hj => ?_⟩
    rw [hr] at hj
    simp only [List.mem_cons, List.not_mem_nil, or_false] at hj
    rcases hj with hj | hj
    · subst hj
      refine ⟨hkn, ?_⟩
      unfold qB
      simp only [ho]
      refine .inr ⟨hg, α, ok, W', V, h1, h2, fun a ha => ?_⟩
      rw [← e6]
      exact AB8 hs hc hn l f _ _ (W' a) hdp.1 (inv.set hr' hkn) (h2 a ha) hB' (h3 a ha)
    · subst hj
      refine ⟨hkn2, ?_⟩
      unfold qB
      simp only [ho']
      refine .inr ⟨hg', α', ok', W'', V', h1', h2', fun a ha => ?_⟩
      rw [← e6]
      exact AB8 hs hc hn u f _ _ (W'' a) hdp.2 (inv.set hr2 hkn2) (h2' a ha) hB2 (h3' a ha)
theorem Q2 {id : Nat} {l : List Oper} {Q : Exit → AState → Prop} {env : List (Nat × AV)} {own : List Own} (base : List Own) (m : Nat) (ord : OT) (hm : P.follows .mixedOrders = true) (hB : treeB .any l.toArray m ord = true) (hd : dstOk n l = true) (hb : InvX base own)
  (h : BT P G n (InvX base) l.toArray ord env own (fun env' W => ASeq P G n l.toArray (l.drop m) ⟨W, env'⟩ (Q .normal))) : AWP P G n (.region id l.toArray true) Q ⟨own, env⟩ := fun w0 R0 R a w ⟨h1, h2, h3, h4⟩ => by
 simp only [treeB, Bool.and_eq_true, decide_eq_true_eq] at hB
 obtain ⟨⟨⟨⟨hn, hdp⟩, hs⟩, hc⟩, hlex⟩ := hB
 have hn' : m < l.length := by simpa using hn
 have hdl : (l.drop m).length = l.toArray.size - m := by simp
 have inv0 : HeadInv .any l.toArray m (Array.replicate l.toArray.size false) :=
  ⟨by simp, fun j oj _ hl => (by rw [getD_replicate_false] at hl; cases hl), fun t _ ht => getD_in (by simpa using ht) (getD_replicate_false _ _)⟩
 have H := AB8 (g := l.toArray.size - m) hs hc hn ord m _ env own hdp inv0 hb hlex h
 refine wp_region_any hm ?_
 have := p7 (w0 := w0) (R0 := R0) (R00 := R) (g := l.toArray.size - m) (Q' := fun e a' w' => ∃ s' R', Q e s' ∧ RSub R R' ∧ St G n w0 R0 s' R' a' w') (fun i o ho d e => AC6 hd i o (by simpa using ho) d e) (fun listed E W R' a' w' g1 g2 g3 g4 g5 hL => by
  obtain ⟨hL1, env', rfl, hL2⟩ := hL
  have := wpAny_of_seq (P := P) (md := .any) (Q' := fun e a' w' => ∃ s' R', Q e s' ∧ RSub R R' ∧ St G n w0 R0 s' R' a' w') (l.drop m) m listed a' w' (fun j => by simp [List.getElem?_drop]) (by rw [hdl]; exact hL1)
   (j7 (R00 := R) (K := Q .normal) (fun s' R' a w q r1 r2 => ⟨s', R', q, r1, r2⟩) _ (⟨W, env'⟩ : AState) R' a' w' g1 ⟨g2, g3, g4, g5⟩ hL2)
  rwa [hdl] at this) _ _ _ own R a _ (RSub.refl _) (AB0 h1) h2 h3 h4 H
 rw [show m + (l.toArray.size - m) = l.toArray.size by omega] at this
 exact this
section
variable {ops : Array Oper} {i j : Nat} {o : Oper} {r u : OT} {env : List (Nat × AV)} {W : List Own} {base : List Own} {K : List (Nat × AV) → List Own → Prop} {d : Nat} {x : AV}
theorem W1 {Inv : List Own → Prop} (h : K env W) : BT P G n Inv ops .nil env W K := h
theorem D4 (ho : ops[i]? = some o) (hg : o.guard = none) (hd : o.dst = some d) (h : ∀ ext, OpW P G n (base ++ ext) o (getv · env) x) (k : BT P G n (InvX base) ops r ((d, x) :: env) W K) : BT P G n (InvX base) ops (.pure i r) env W K :=
  ⟨o, ho, x, fun W' ⟨ext, e⟩ => by subst e; exact AF9 hg (h ext), by rw [hd]; exact k⟩
theorem T5 {c : Bool} (ho : ops[i]? = some o) (hd : o.dst = some d) (hg : GuardIs ops o (getv · env) c) (h : c = true → ∀ ext, OpW P G n (base ++ ext) o (getv · env) x) (k : BT P G n (InvX base) ops r ((d, AV.whn c x) :: env) W K) : BT P G n (InvX base) ops (.pure i r) env W K :=
  ⟨o, ho, _, fun W' ⟨ext, e⟩ => by subst e; exact Ag5 hg fun hc => h hc ext, by rw [hd]; exact k⟩
theorem T9 {Inv : List Own → Prop} (h : EffS P G n Inv ops i env W fun env' W' => BT P G n Inv ops r env' W' K) : BT P G n Inv ops (.e1 i r) env W K := h
theorem AD3 {Inv : List Own → Prop} (h : EffS P G n Inv ops i env W fun env' W' => BT P G n Inv ops r env' W' K) (k : EffS P G n Inv ops j env W fun env' W' => BT P G n Inv ops u env' W' K) : BT P G n Inv ops (.e2 i r j u) env W K := ⟨h, k⟩
theorem j5 {Inv : List Own → Prop} {α : Type} {ok : α → Prop} {W' : α → List Own} {V : α → AV} (ho : ops[i]? = some o) (hg : o.guard = none) (hd : o.dst = none) (h : OpE P G n W ops o (getv · env) ok W' V) (hi : ∀ a, ok a → Inv (W' a)) (k : ∀ a, ok a → K env (W' a)) : EffS P G n Inv ops i env W K :=
  ⟨o, ho, hg, α, ok, W', V, h, hi, fun a ha => by rw [hd]; exact k a ha⟩
theorem S6 {Inv : List Own → Prop} {α : Type} {ok : α → Prop} {W' : α → List Own} {V : α → AV} (ho : ops[i]? = some o) (hg : o.guard = none) (hd : o.dst = some d) (h : OpE P G n W ops o (getv · env) ok W' V) (hi : ∀ a, ok a → Inv (W' a)) (k : ∀ a, ok a → K ((d, V a) :: env) (W' a)) : EffS P G n Inv ops i env W K :=
  ⟨o, ho, hg, α, ok, W', V, h, hi, fun a ha => by rw [hd]; exact k a ha⟩
end
end
section
variable {T X : Type} {cs : T → List AV} {ocs : T → X → List AV} {ow : T → X → List Own}
def nrows (ocs : T → X → List AV) (l : List T) (xs : List X) : List (List AV) := List.zipWith ocs l xs
def nin (ow : T → X → List Own) (l : List T) (xs : List X) : List Own := (List.zipWith ow l xs).flatten
theorem l6 {l : List T} {xs : List X} (h : xs.length = l.length) : (nrows ocs l xs).length = l.length := by unfold nrows; rw [List.length_zipWith]; omega
theorem Al3 {l : List T} {xs : List X} {i : Nat} {p : T} {x : X} (hp : l[i]? = some p) (hx : xs[i]? = some x) : (nrows ocs l xs)[i]? = some (ocs p x) := by
  unfold nrows; rw [List.getElem?_zipWith, hp, hx]
theorem BG1 {l : List T} {xs : List X} {p : T} {x : X} (h : xs.length = l.length) : nrows ocs (l ++ [p]) (xs ++ [x]) = nrows ocs l xs ++ [ocs p x] := by
  unfold nrows; rw [List.zipWith_append h.symm]; rfl
theorem nin_snoc {l : List T} {xs : List X} {p : T} {x : X} (h : xs.length = l.length) : (ow p x ++ nin ow l xs).Perm (nin ow (l ++ [p]) (xs ++ [x])) := by
  unfold nin; rw [List.zipWith_append h.symm, List.flatten_append]
  refine List.perm_append_comm.trans ?_
  simp
theorem Al4 {l : List T} {i : Nat} {p : T} (h : l[i]? = some p) : l.take (i + 1) = l.take i ++ [p] := by rw [List.take_add_one, h]; rfl
theorem At5 {l : List T} {xs : List X} {p : T} {x : X} {i : Nat} (hp : l[i]? = some p) (h : xs.length = i) : (ow p x ++ nin ow (l.take i) xs).Perm (nin ow (l.take (i + 1)) (xs ++ [x])) := by
  have hi := (List.getElem?_eq_some_iff.1 hp).1
  rw [Al4 hp]
  exact nin_snoc (by rw [h, D9]; omega)
theorem Ae3 {l : List T} {xs : List X} {p : T} {x : X} {i : Nat} (hp : l[i]? = some p) (h : xs.length = i) : nrows ocs (l.take i) xs ++ [ocs p x] = nrows ocs (l.take (i + 1)) (xs ++ [x]) := by
  have hi := (List.getElem?_eq_some_iff.1 hp).1
  rw [Al4 hp, BG1 (by rw [h, D9]; omega)]
theorem AW8 {p : T} {x : X} : ∀ {l : List T} {xs : List X} {i : Nat}, l[i]? = some p → xs[i]? = some x → (nin ow l xs).Perm (ow p x ++ nin ow (l.eraseIdx i) (xs.eraseIdx i))
  | [], _, _, h, _ => by simp at h
  | _ :: _, [], _, _, h => by simp at h
  | q :: l, y :: xs, 0, hp, hx => by simp at hp hx; subst hp; subst hx; exact List.Perm.refl _
  | q :: l, y :: xs, i + 1, hp, hx => by
    have ih := AW8 (l := l) (xs := xs) (i := i) (by simpa using hp) (by simpa using hx)
    unfold nin at *
    simp only [List.zipWith_cons_cons, List.flatten_cons, T6]
    refine (List.Perm.append_left (ow q y) ih).trans ?_
    rw [← List.append_assoc, ← List.append_assoc]
    exact List.Perm.append_right _ List.perm_append_comm
theorem AI1 {p : T} {x : X} : ∀ {l : List T} {xs : List X} {i : Nat}, l[i]? = some p → xs[i]? = some x → nrows ocs l xs = nrows ocs (l.take i) (xs.take i) ++ ocs p x :: nrows ocs (l.drop (i + 1)) (xs.drop (i + 1))
  | [], _, _, h, _ => by simp at h
  | _ :: _, [], _, _, h => by simp at h
  | q :: l, y :: xs, 0, hp, hx => by simp at hp hx; subst hp; subst hx; rfl
  | q :: l, y :: xs, i + 1, hp, hx => by
    have ih := AI1 (p := p) (x := x) (l := l) (xs := xs) (i := i) (by simpa using hp) (by simpa using hx)
    unfold nrows at *
    simp only [List.zipWith_cons_cons, S5, S8, S2]
    rw [ih]
theorem BG2 {p : T} {x : X} {l : List T} {xs : List X} {i : Nat} (hp : l[i]? = some p) (hx : xs[i]? = some x) : (nrows ocs (l.take i) (xs.take i)).length = i := by
  have h1 := (List.getElem?_eq_some_iff.1 hp).1
  have h2 := (List.getElem?_eq_some_iff.1 hx).1
  unfold nrows; rw [List.length_zipWith, D9, D9]; omega
theorem nin_mem {p : T} {x : X} {l : List T} {xs : List X} {i : Nat} (hp : l[i]? = some p) (hx : xs[i]? = some x) : ∀ o ∈ ow p x, o ∈ nin ow l xs := fun o ho => (AW8 (ow := ow) (i := i) hp hx).mem_iff.2 (List.mem_append_left _ ho)
theorem AF2 {own : List Own} {v : Value} {t : TypeId} {sz : Nat} {l : List T} {xs : List X} (hlc : ∀ p x, (∀ o ∈ ow p x, o ∈ own) → LendC own (ocs p x) (cs p)) (hlen : xs.length = l.length) (i : Nat) (hi : own[i]? = some (.arr v t sz (nrows ocs l xs))) (hm : ∀ o ∈ nin ow l xs, o ∈ own) : LendTo own (AV.is v) (AV.list sz (l.map cs)) :=
  M8 (F9 hi) ⟨by rw [l6 hlen, A8], fun j a b ha hb => by
    rw [List.getElem?_map] at hb
    cases hp : l[j]? with
    | none => rw [hp] at hb; cases hb
    | some p =>
      rw [hp] at hb
      have hj := (List.getElem?_eq_some_iff.1 hp).1
      obtain ⟨x, hx⟩ : ∃ x, xs[j]? = some x := ⟨_, List.getElem?_eq_getElem (by omega)⟩
      rw [Al3 hp hx] at ha
      injection ha with ha; injection hb with hb; subst ha; subst hb
      exact hlc p x fun o ho => hm o (nin_mem hp hx o ho)⟩
end
section
variable {T : Type}
def marksN (mk : T → Int → T) (mn : T → Int → Int) : List T → Int → List T
  | [], _ => []
  | p :: l, k => mk p k :: marksN mk mn l (mn p k)
variable {mk : T → Int → T} {mn : T → Int → Int}
theorem AN8 : ∀ (l : List T) (k : Int), (marksN mk mn l k).length = l.length
  | [], _ => rfl
  | p :: l, k => by unfold marksN; simp [AN8 l]
end
end Go.AV

namespace Go.M
open Go.AV
theorem u5 {α : Type} {f : α → Nat} {c : Nat} : ∀ {l : List α}, (∀ x ∈ l, f x ≤ c) → sizeL f l ≤ l.length * (c + 1)
  | [], _ => by simp [sizeL]
  | x :: l, h => by
    rw [N7]
    have h1 := h x List.mem_cons_self
    have h2 := u5 (l := l) fun y hy => h y (List.mem_cons_of_mem _ hy)
    rw [I5, Nat.add_mul]; omega
theorem BG3 {s : Str} {g : Bool} (h : isStored s g = true) : s.length ≤ 24 := by
  unfold isStored goodVal at h
  simp only [Bool.and_eq_true, decide_eq_true_eq] at h
  omega
theorem BM1 {l : List TCell} (h : goodCells l = true) : sizeL TCell.size l ≤ 9912 := by
  obtain ⟨h1, _, h3⟩ := f8 h
  have : ∀ c ∈ l, c.size ≤ 412 := fun c hc => by
    obtain ⟨k1, k2, k3, _, k5⟩ := h3 c hc
    have e1 := Az0 k1
    have e2 := u5 (f := TVer.size) (c := 24) (l := c.Vers) fun v hv => by
      have := k5 v hv
      unfold verGood at this
      simp only [Bool.and_eq_true] at this
      exact BG3 this.2
    unfold TCell.size; omega
  have h4 := u5 this
  omega
end Go.M

namespace Go.M
open Go.AV
theorem AS6 {α : Type} {p : α → α → Bool} (tr : ∀ a b c, p a b = true → p b c = true → p a c = true) : ∀ {l : List α}, adj p l = true ↔ l.Pairwise fun a b => p a b = true
  | [] => by simp [adj]
  | [x] => by simp [adj]
  | x :: y :: l => by
    constructor
    · intro h
      refine List.pairwise_cons.2 ⟨AW6 tr h, ?_⟩
      exact (AS6 tr).1 (AN5 h)
    · intro h
      obtain ⟨h1, h2⟩ := List.pairwise_cons.1 h
      rw [u4, h1 y List.mem_cons_self, (AS6 tr).2 h2]; rfl
end Go.M

namespace Go.M
open Go.AV
def versOf (l : List TCell) (k : Str) : List TVer := match findC l k with
  | some c => c.Vers
  | none => []
theorem Z2 (c : TCell) (l : List TCell) (k : Str) : findC (c :: l) k = if c.Key = k then some c else findC l k := by
  unfold findC
  rw [List.find?_cons]
  by_cases h : c.Key = k
  · rw [if_pos h, beq_iff_eq.2 h]
  · rw [if_neg h, beq_eq_false_iff_ne.2 h]
theorem findC_gt {l : List TCell} {k : Str} (h : ∀ c ∈ l, Op.bytesLess k c.Key = true) : findC l k = none := by
  unfold findC
  rw [List.find?_eq_none]
  intro c hc he
  have := h c hc
  simp only [beq_iff_eq] at he
  rw [he, N6] at this; cases this
theorem At6 {k : Str} {v : TVer} : ∀ {l : List TCell}, adj cLess l = true → findC (insC l k v) k = some ⟨k, versOf l k ++ [v]⟩
  | [], _ => by unfold insC; rw [Z2, if_pos rfl]; rfl
  | c :: l, ha => by
    have hal := AN5 ha
    unfold insC
    by_cases h1 : Op.bytesLess c.Key k = true
    · have hne : c.Key ≠ k := fun e => by rw [e, N6] at h1; cases h1
      rw [if_pos h1, Z2, if_neg hne, At6 hal]
      unfold versOf; rw [Z2, if_neg hne]
    · rw [if_neg h1]
      by_cases h2 : c.Key = k
      · rw [if_pos h2, Z2, if_pos rfl]
        unfold versOf; rw [Z2, if_pos h2]
      · rw [if_neg h2, Z2, if_pos rfl]
        have hk : Op.bytesLess k c.Key = true := by have := T4 k c.Key; simp_all
        have hn : findC (c :: l) k = none := findC_gt fun d hd => by
          rcases List.mem_cons.1 hd with e | e
          · subst e; exact hk
          · exact Q1 hk (AW6 l8 ha d e)
        unfold versOf; rw [hn]; rfl
theorem z7 {k k' : Str} {v : TVer} (hk : k' ≠ k) : ∀ {l : List TCell}, findC (insC l k v) k' = findC l k'
  | [] => by unfold insC; rw [Z2, if_neg (fun e => hk e.symm)]
  | c :: l => by
    unfold insC
    split
    · rw [Z2, Z2, z7 hk]
    · split
      · rename_i h2
        rw [Z2, Z2, if_neg (fun e => hk e.symm), if_neg (fun e => hk (e.symm.trans h2))]
      · rw [Z2, if_neg (fun e => hk e.symm)]
theorem AN9 {t : Int} : ∀ {w : List TWrite} {l out : List TCell}, (w.map TWrite.Key).Nodup → adj cLess l = true → putAll l w t = some out →
    (∀ x ∈ w, findC out x.Key = some ⟨x.Key, versOf l x.Key ++ [⟨t, x.Val, x.Gone⟩]⟩) ∧ ∀ k, k ∉ w.map TWrite.Key → findC out k = findC l k
  | [], l, out, _, _, h => by simp [putAll] at h; subst h; simp
  | y :: w, l, out, hn, ha, h => by
    unfold putAll at h
    split at h
    · cases h
    · rw [List.map_cons, List.nodup_cons] at hn
      obtain ⟨i1, i2⟩ := AN9 hn.2 (Aa9 y.Key ⟨t, y.Val, y.Gone⟩ ha) h
      refine ⟨fun x hx => ?_, fun k hk => ?_⟩
      · rcases List.mem_cons.1 hx with e | e
        · subst e
          rw [i2 _ hn.1]; exact At6 ha
        · rw [i1 x e]
          have hne : x.Key ≠ y.Key := fun e2 => hn.1 (e2 ▸ List.mem_map_of_mem e)
          have : versOf (putC1 l y t) x.Key = versOf l x.Key := by
            unfold versOf putC1; rw [z7 hne]
          unfold putC1 at this
          rw [this]
      · simp only [List.map_cons, List.mem_cons, not_or] at hk
        rw [i2 k hk.2]; exact z7 hk.1
theorem At7 {w : List TWrite} (h : goodWrites w = true) : (w.map TWrite.Key).Nodup := by
  unfold goodWrites areRising wKeys at h
  simp only [Bool.and_eq_true] at h
  have ha := h.1.2.2
  rw [List.Nodup]
  refine ((AS6 (p := fun a b => Op.bytesLess a b) (fun a b c h k => Q1 h k)).1 ha).imp fun {a b} hab e => ?_
  rw [e, N6] at hab; cases hab
end Go.M

namespace Go.M
open Go.AV
def hRec (h : THeld) : TRec := ⟨1, h.Txn, h.Time, h.Lead, h.Reads, h.Writes, false⟩
def hOf (r : TRec) : THeld := ⟨r.Txn, r.Time, r.Lead, r.Reads, r.Writes⟩
def hasK (l : List TWrite) (k : Str) : Bool := l.any fun w => w.Key == k
def hasS (l : List Str) (k : Str) : Bool := l.any fun x => k == x
theorem n5 {l : List TWrite} {k : Str} : hasK l k = true ↔ ∃ w ∈ l, w.Key = k := by unfold hasK; simp
theorem z8 {l : List Str} {k : Str} : hasS l k = true ↔ k ∈ l := by unfold hasS; simp
def overlap (ws : List TWrite) (rs : List Str) (os : List TWrite) : Bool := ws.any fun w => hasK os w.Key || hasS rs w.Key
def clash (h k : THeld) : Bool := overlap h.Writes k.Reads k.Writes || overlap k.Writes h.Reads h.Writes
def apart (h : THeld) (rs : List Str) (ws : List TWrite) : Bool := rs.all (fun k => !hasK h.Writes k) && ws.all (fun w => !(hasK h.Writes w.Key || hasS h.Reads w.Key))
theorem AB9 {h : THeld} {rs : List Str} {ws : List TWrite} : apart h rs ws = true ↔ (∀ k ∈ rs, ∀ w ∈ h.Writes, w.Key ≠ k) ∧ (∀ w ∈ ws, (∀ v ∈ h.Writes, v.Key ≠ w.Key) ∧ w.Key ∉ h.Reads) := by
  unfold apart
  simp only [Bool.and_eq_true, List.all_eq_true, Bool.not_eq_true', Bool.or_eq_false_iff]
  constructor
  · rintro ⟨h1, h2⟩
    refine ⟨fun k hk w hw e => ?_, fun w hw => ⟨fun v hv e => ?_, fun hr => ?_⟩⟩
    · have := h1 k hk; rw [n5.2 ⟨w, hw, e⟩] at this; cases this
    · have := (h2 w hw).1; rw [n5.2 ⟨v, hv, e⟩] at this; cases this
    · have := (h2 w hw).2; rw [z8.2 hr] at this; cases this
  · rintro ⟨h1, h2⟩
    refine ⟨fun k hk => ?_, fun w hw => ⟨?_, ?_⟩⟩
    · cases e : hasK h.Writes k with
      | false => rfl
      | true => obtain ⟨v, hv, ev⟩ := n5.1 e; exact (h1 k hk v hv ev).elim
    · cases e : hasK h.Writes w.Key with
      | false => rfl
      | true => obtain ⟨v, hv, ev⟩ := n5.1 e; exact ((h2 w hw).1 v hv ev).elim
    · cases e : hasS h.Reads w.Key with
      | false => rfl
      | true => exact ((h2 w hw).2 (z8.1 e)).elim
theorem AY3 (h g : THeld) : clash h g = !apart g h.Reads h.Writes := by
  cases ha : apart g h.Reads h.Writes with
  | true =>
    obtain ⟨h1, h2⟩ := AB9.1 ha
    refine Bool.eq_false_iff.2 fun hc => ?_
    unfold clash overlap at hc
    simp only [Bool.or_eq_true, List.any_eq_true] at hc
    rcases hc with ⟨w, hw, e | e⟩ | ⟨w, hw, e | e⟩
    · obtain ⟨v, hv, ev⟩ := n5.1 e; exact (h2 w hw).1 v hv ev
    · exact (h2 w hw).2 (z8.1 e)
    · obtain ⟨v, hv, ev⟩ := n5.1 e; exact (h2 v hv).1 w hw ev.symm
    · exact h1 _ (z8.1 e) w hw rfl
  | false =>
    rw [Bool.not_false]
    cases hc : clash h g with
    | true => rfl
    | false =>
      rw [← ha, AB9.2]
      unfold clash overlap at hc
      simp only [Bool.or_eq_false_iff, List.any_eq_false, Bool.or_eq_true, not_or] at hc
      refine ⟨fun k hk w hw e => (hc.2 w hw).2 (z8.2 (e ▸ hk)), fun w hw => ⟨fun v hv e => (hc.1 w hw).1 (n5.2 ⟨v, hv, e⟩), fun hr => (hc.1 w hw).2 (z8.2 hr)⟩⟩
theorem AS7 {h : THeld} {rs : List Str} {ws : List TWrite} {t m l : Int} (ha : apart h rs ws = true) : apart ⟨t, m, l, rs, ws⟩ h.Reads h.Writes = true := by
  obtain ⟨h1, h2⟩ := AB9.1 ha
  exact AB9.2 ⟨fun k hk w hw e => (h2 w hw).2 (e ▸ hk), fun w hw => ⟨fun v hv e => (h2 v hv).1 w hw e.symm, fun hr => h1 _ hr w hw rfl⟩⟩
def fullC (cells : List TCell) (k : Str) : Bool := match findC cells k with
  | some c => decide (16 ≤ c.Vers.length)
  | none => false
def hWs (l : List THeld) : List TWrite := (l.map THeld.Writes).flatten
def roomKs (cells : List TCell) (ws : List TWrite) : List Str := keysI (cKeys cells ++ wKeys ws)
def room (cells : List TCell) (ws : List TWrite) : Bool := ws.all (fun w => !fullC cells w.Key) && decide ((roomKs cells ws).length ≤ 24)
theorem BG4 (a b : List THeld) : hWs (a ++ b) = hWs a ++ hWs b := by unfold hWs; simp
theorem AO0 (a : THeld) (b : List THeld) : hWs (a :: b) = a.Writes ++ hWs b := by unfold hWs; simp
theorem AA0 {l : List THeld} {w : TWrite} : w ∈ hWs l ↔ ∃ h ∈ l, w ∈ h.Writes := by
  unfold hWs
  simp only [List.mem_flatten, List.mem_map]
  constructor
  · rintro ⟨_, ⟨a, ha, rfl⟩, hw⟩; exact ⟨a, ha, hw⟩
  · rintro ⟨h, hh, hw⟩; exact ⟨_, ⟨h, hh, rfl⟩, hw⟩
theorem Ae4 {cells : List TCell} {ws : List TWrite} {k : Str} : k ∈ roomKs cells ws ↔ k ∈ cKeys cells ∨ k ∈ wKeys ws := by
  unfold roomKs; rw [AB7, List.mem_append]
theorem BG5 {l : List Str} (h : SrtS l) : l.Nodup := h.imp fun {a b} hab e => by rw [e, N6] at hab; cases hab
theorem At8 {α : Type} [BEq α] [LawfulBEq α] : ∀ {a b : List α}, a.Nodup → (∀ x ∈ a, x ∈ b) → a.length ≤ b.length
  | [], _, _, _ => Nat.zero_le _
  | x :: a, b, ha, h => by
    obtain ⟨h1, h2⟩ := List.nodup_cons.1 ha
    have hx := h x List.mem_cons_self
    have ih := At8 (b := b.erase x) h2 fun y hy => (List.mem_erase_of_ne (fun e : y = x => h1 (by rw [← e]; exact hy))).2 (h y (List.mem_cons_of_mem _ hy))
    rw [List.length_erase_of_mem hx] at ih
    have := List.length_pos_of_mem hx
    rw [I5]; omega
theorem srtS_le {a b : List Str} (ha : SrtS a) (h : ∀ x ∈ a, x ∈ b) : a.length ≤ b.length := At8 (BG5 ha) h
theorem AS8 {c1 c2 : List TCell} {w1 w2 : List TWrite} (h : ∀ k, k ∈ cKeys c1 ∨ k ∈ wKeys w1 → k ∈ cKeys c2 ∨ k ∈ wKeys w2) : (roomKs c1 w1).length ≤ (roomKs c2 w2).length :=
  srtS_le (AS4 _) fun k hk => Ae4.2 (h k (Ae4.1 hk))
theorem Al5 {cells : List TCell} {a b : List TWrite} (h : ∀ w, w ∈ a ↔ w ∈ b) : room cells a = room cells b := by
  unfold room
  have h1 : a.all (fun w => !fullC cells w.Key) = b.all (fun w => !fullC cells w.Key) := by
    rw [Bool.eq_iff_iff, List.all_eq_true, List.all_eq_true]
    exact ⟨fun k w hw => k w ((h w).2 hw), fun k w hw => k w ((h w).1 hw)⟩
  have hk : ∀ k, k ∈ wKeys a ↔ k ∈ wKeys b := fun k => by unfold wKeys; simp only [List.mem_map]; exact ⟨fun ⟨w, hw, e⟩ => ⟨w, (h w).1 hw, e⟩, fun ⟨w, hw, e⟩ => ⟨w, (h w).2 hw, e⟩⟩
  have h2 : (roomKs cells a).length = (roomKs cells b).length := Nat.le_antisymm (AS8 fun k hk2 => by rw [hk] at hk2; exact hk2) (AS8 fun k hk2 => by rw [← hk] at hk2; exact hk2)
  rw [h1, h2]
def allB (n : Nat) (p : Nat → Bool) : Bool := (List.range n).all p
theorem t1 {n : Nat} {p : Nat → Bool} : allB n p = true ↔ ∀ i, i < n → p i = true := by unfold allB; simp
theorem d9 {n i : Nat} {p : Nat → Bool} (hi : i < n) (h : p i = false) : allB n p = false := by
  cases e : allB n p with
  | false => rfl
  | true => rw [t1.1 e i hi] at h; cases h
def hasH (l : List THeld) (n : Int) : Bool := l.any fun h => h.Txn == n
def hasT (l : List TTold) (n : Int) : Bool := l.any fun t => t.Txn == n
def hPrev (l : List THeld) (i : Nat) (n : Int) : Bool := match l[i - 1]? with
  | some g => !(decide (0 < i) && decide (n ≤ g.Txn))
  | none => true
def tPrev (l : List TTold) (i : Nat) (n : Int) : Bool := match l[i - 1]? with
  | some g => !(decide (0 < i) && decide (n ≤ g.Txn))
  | none => true
def heldAt (s : TState) (i : Nat) : Bool := match s.Held[i]? with
  | none => true
  | some h => (((goodRec (hRec h) && !decide (s.Floor < h.Time)) && hPrev s.Held i h.Txn) && (s.Held.take i).all fun g => apart g h.Reads h.Writes) && h.Writes.all fun w => decide (lastTime s.Cells w.Key < h.Time)
def areHeld (s : TState) : Bool := allB s.Held.length (heldAt s) && (decide (s.Held.length ≤ 12) && room s.Cells (hWs s.Held))
def tFits (s : TState) (t : TTold) : Bool := if t.Yes = true then within t.Time 1 s.Floor else t.Time == 0
def toldAt (s : TState) (i : Nat) : Bool := match s.Told[i]? with
  | none => true
  | some t => ((isTxnR t.Txn && tFits s t) && tPrev s.Told i t.Txn) && !hasH s.Held t.Txn
def goodState (s : TState) : Bool := ((((isTrue s.Floor && goodCells s.Cells) && areHeld s) && decide (s.Told.length ≤ 60)) && s.Cells.all fun c => decide (lastTime s.Cells c.Key ≤ s.Floor)) && allB s.Told.length (toldAt s)
structure GS (s : TState) : Prop where
  floor : 0 ≤ s.Floor ∧ s.Floor ≤ 100000
  cells : goodCells s.Cells = true
  good : ∀ h ∈ s.Held, goodRec (hRec h) = true ∧ h.Time ≤ s.Floor ∧ ∀ w ∈ h.Writes, lastTime s.Cells w.Key < h.Time
  hsort : s.Held.Pairwise fun a b => a.Txn < b.Txn
  apart : s.Held.Pairwise fun a b => apart a b.Reads b.Writes = true
  hlen : s.Held.length ≤ 12
  room : room s.Cells (hWs s.Held) = true
  tlen : s.Told.length ≤ 60
  last : ∀ c ∈ s.Cells, lastTime s.Cells c.Key ≤ s.Floor
  told : ∀ t ∈ s.Told, isTxnR t.Txn = true ∧ tFits s t = true ∧ hasH s.Held t.Txn = false
  tsort : s.Told.Pairwise fun a b => a.Txn < b.Txn
theorem AO1 {α : Type} {f : α → Int} {l : List α} (h : ∀ (i : Nat) (x y : α), 0 < i → l[i]? = some x → l[i - 1]? = some y → f y < f x) : l.Pairwise fun a b => f a < f b := by
  have key : ∀ (j i : Nat) (x y : α), i < j → l[j]? = some x → l[i]? = some y → f y < f x := by
    intro j
    induction j with
    | zero => intro i x y hi; omega
    | succ j ih =>
      intro i x y hi hx hy
      have hj := (List.getElem?_eq_some_iff.1 hx).1
      have hz := List.getElem?_eq_getElem (show j < l.length by omega)
      have h1 := h (j + 1) x _ (by omega) hx hz
      rcases Nat.lt_or_ge i j with h2 | h2
      · have := ih i _ y h2 hz hy; omega
      · have : i = j := by omega
        subst this; rw [hz] at hy; injection hy with hy; subst hy; exact h1
  rw [List.pairwise_iff_getElem]
  intro i j hi hj hij
  exact key j i _ _ hij (List.getElem?_eq_getElem hj) (List.getElem?_eq_getElem hi)
theorem AS9 {l : List THeld} {i : Nat} {n : Int} : hPrev l i n = true ↔ ∀ g, 0 < i → l[i - 1]? = some g → g.Txn < n := by
  unfold hPrev
  cases h : l[i - 1]? with
  | none => simp
  | some g =>
    simp only [Bool.not_eq_true', Bool.and_eq_false_iff, decide_eq_false_iff_not]
    exact ⟨fun k y h0 e => by injection e with e; subst e; omega, fun k => if h0 : 0 < i then .inr (by have := k g h0 rfl; omega) else .inl h0⟩
theorem Al6 {l : List TTold} {i : Nat} {n : Int} : tPrev l i n = true ↔ ∀ g, 0 < i → l[i - 1]? = some g → g.Txn < n := by
  unfold tPrev
  cases h : l[i - 1]? with
  | none => simp
  | some g =>
    simp only [Bool.not_eq_true', Bool.and_eq_false_iff, decide_eq_false_iff_not]
    exact ⟨fun k y h0 e => by injection e with e; subst e; omega, fun k => if h0 : 0 < i then .inr (by have := k g h0 rfl; omega) else .inl h0⟩
theorem Al7 {α : Type} {p : α → α → Prop} {l : List α} : l.Pairwise p ↔ ∀ (i : Nat) (x : α), l[i]? = some x → ∀ y ∈ l.take i, p y x := by
  rw [List.pairwise_iff_getElem]
  constructor
  · intro h i x hx y hy
    obtain ⟨j, hj⟩ := List.getElem?_of_mem hy
    have hi := (List.getElem?_eq_some_iff.1 hx)
    have hjl := (List.getElem?_eq_some_iff.1 hj).1
    rw [D9] at hjl
    rw [List.getElem?_take_of_lt (by omega)] at hj
    have hj2 := (List.getElem?_eq_some_iff.1 hj)
    obtain ⟨hi1, hi2⟩ := hi
    obtain ⟨hj3, hj4⟩ := hj2
    have := h j i hj3 hi1 (by omega)
    rw [hi2, hj4] at this; exact this
  · intro h i j hi hj hij
    refine h j _ (List.getElem?_eq_getElem hj) _ (F9 (i := i) ?_)
    rw [List.getElem?_take_of_lt hij]; exact List.getElem?_eq_getElem hi
theorem g9 {s : TState} : goodState s = true ↔ GS s := by
  unfold goodState areHeld
  simp only [Bool.and_eq_true, decide_eq_true_eq, t1, List.all_eq_true]
  constructor
  · rintro ⟨⟨⟨⟨⟨h1, h2⟩, h3, h4, h5⟩, h6⟩, h7⟩, h8⟩
    have hh : ∀ (i : Nat) (h : THeld), s.Held[i]? = some h → goodRec (hRec h) = true ∧ h.Time ≤ s.Floor ∧ (∀ g, 0 < i → s.Held[i - 1]? = some g → g.Txn < h.Txn) ∧ (∀ g ∈ s.Held.take i, apart g h.Reads h.Writes = true) ∧ ∀ w ∈ h.Writes, lastTime s.Cells w.Key < h.Time := fun i h hi => by
      have := h3 i (List.getElem?_eq_some_iff.1 hi).1
      unfold heldAt at this
      rw [hi] at this
      simp only [Bool.and_eq_true, List.all_eq_true, decide_eq_true_eq, AS9, Bool.not_eq_true', decide_eq_false_iff_not] at this
      exact ⟨this.1.1.1.1, by omega, this.1.1.2, this.1.2, this.2⟩
    have ht : ∀ (i : Nat) (t : TTold), s.Told[i]? = some t → isTxnR t.Txn = true ∧ tFits s t = true ∧ (∀ g, 0 < i → s.Told[i - 1]? = some g → g.Txn < t.Txn) ∧ hasH s.Held t.Txn = false := fun i t hi => by
      have := h8 i (List.getElem?_eq_some_iff.1 hi).1
      unfold toldAt at this
      rw [hi] at this
      simp only [Bool.and_eq_true, Al6, Bool.not_eq_true'] at this
      exact ⟨this.1.1.1, this.1.1.2, this.1.2, this.2⟩
    unfold isTrue within at h1
    simp only [Bool.and_eq_true, decide_eq_true_eq] at h1
    refine ⟨h1, h2, fun h hm => ?_, AO1 fun i x y h0 hx hy => (hh i x hx).2.2.1 y h0 hy, Al7.2 fun i x hx => (hh i x hx).2.2.2.1, h4, h5, h6, h7, fun t hm => ?_, AO1 fun i x y h0 hx hy => (ht i x hx).2.2.1 y h0 hy⟩
    · obtain ⟨i, hi⟩ := List.getElem?_of_mem hm
      have := hh i h hi
      exact ⟨this.1, this.2.1, this.2.2.2.2⟩
    · obtain ⟨i, hi⟩ := List.getElem?_of_mem hm
      have := ht i t hi
      exact ⟨this.1, this.2.1, this.2.2.2⟩
  · intro g
    have hch : ∀ {α : Type} {f : α → Int} {l : List α}, (l.Pairwise fun a b => f a < f b) → ∀ (i : Nat) (x y : α), 0 < i → l[i]? = some x → l[i - 1]? = some y → f y < f x := fun {α f l} hp i x y h0 hx hy => by
      obtain ⟨hx1, hx2⟩ := List.getElem?_eq_some_iff.1 hx
      obtain ⟨hy1, hy2⟩ := List.getElem?_eq_some_iff.1 hy
      have := List.pairwise_iff_getElem.1 hp (i - 1) i hy1 hx1 (by omega)
      rw [hx2, hy2] at this; exact this
    refine ⟨⟨⟨⟨⟨?_, g.cells⟩, fun i hi => ?_, g.hlen, g.room⟩, g.tlen⟩, g.last⟩, fun i hi => ?_⟩
    · unfold isTrue within; simp [g.floor]
    · unfold heldAt
      rw [List.getElem?_eq_getElem hi]
      have hx := List.getElem?_eq_getElem hi
      obtain ⟨g1, g2, g3⟩ := g.good _ (F9 hx)
      simp only [Bool.and_eq_true, List.all_eq_true, decide_eq_true_eq, AS9, Bool.not_eq_true', decide_eq_false_iff_not]
      exact ⟨⟨⟨⟨g1, by omega⟩, fun y h0 hy => hch g.hsort i _ y h0 hx hy⟩, fun y hy => Al7.1 g.apart i _ hx y hy⟩, g3⟩
    · unfold toldAt
      rw [List.getElem?_eq_getElem hi]
      have hx := List.getElem?_eq_getElem hi
      obtain ⟨g1, g2, g3⟩ := g.told _ (F9 hx)
      simp only [Bool.and_eq_true, Al6, Bool.not_eq_true']
      exact ⟨⟨⟨g1, g2⟩, fun y h0 hy => hch g.tsort i _ y h0 hx hy⟩, g3⟩
end Go.M

namespace Go.M
open Go.AV
def insH (h : THeld) : List THeld → List THeld
  | [] => [h]
  | g :: l => if h.Txn < g.Txn then h :: g :: l else g :: insH h l
def insT (h : TTold) : List TTold → List TTold
  | [] => [h]
  | g :: l => if h.Txn < g.Txn then h :: g :: l else g :: insT h l
def lessH (l : List THeld) (n : Int) : List THeld := l.filter fun h => h.Txn != n
def findH (l : List THeld) (n : Int) : Option THeld := l.find? fun h => h.Txn == n
def findT (l : List TTold) (n : Int) : Option TTold := l.find? fun t => t.Txn == n
def fits (s : TState) (rs : List Str) (ws : List TWrite) : Bool := (s.Held.all fun h => apart h rs ws) && (decide (s.Held.length < 12) && room s.Cells (hWs s.Held ++ ws))
def doneS (s : TState) (r : TRec) (fl : Int) (q : List TCell) : TState := ⟨fl, q, lessH s.Held r.Txn, insT ⟨r.Txn, r.Yes, r.Time⟩ s.Told⟩
def applyS (s : TState) (r : TRec) : TState × Bool :=
  if r.Kind = 4 then (⟨r.Time, s.Cells, s.Held, s.Told⟩, decide (s.Floor < r.Time))
  else if hasT s.Told r.Txn = true then (s, false)
  else if r.Kind = 1 then (⟨r.Time, s.Cells, insH (hOf r) s.Held, s.Told⟩, (!hasH s.Held r.Txn && decide (s.Floor < r.Time)) && fits s r.Reads r.Writes)
  else if r.Yes = true then (match findH s.Held r.Txn with
    | none => (s, false)
    | some h => if r.Time < h.Time then (s, false) else if (putP s.Cells h.Writes r.Time).2 = true then (doneS s r (if s.Floor < r.Time then r.Time else s.Floor) (putP s.Cells h.Writes r.Time).1, true) else (s, false))
  else (doneS s r s.Floor s.Cells, true)
def zState : TState := ⟨0, [], [], []⟩
def stepS (s : TState) (r : TRec) : TState := if (applyS s r).2 = true then (applyS s r).1 else s
def stFrom (s : TState) (l : List TRec) : TState := l.foldl stepS s
def didFrom (s : TState) : List TRec → List Bool
  | [] => []
  | r :: l => (applyS s r).2 :: didFrom (stepS s r) l
theorem AC0 (h : THeld) : ∀ l, (insH h l).Perm (h :: l)
  | [] => List.Perm.refl _
  | g :: l => by
    unfold insH
    split
    · exact List.Perm.refl _
    · exact (List.Perm.cons g (AC0 h l)).trans (List.Perm.swap h g l)
theorem AT0 (h : TTold) : ∀ l, (insT h l).Perm (h :: l)
  | [] => List.Perm.refl _
  | g :: l => by
    unfold insT
    split
    · exact List.Perm.refl _
    · exact (List.Perm.cons g (AT0 h l)).trans (List.Perm.swap h g l)
theorem p3 {h x : THeld} {l : List THeld} : x ∈ insH h l ↔ x = h ∨ x ∈ l := by rw [(AC0 h l).mem_iff, List.mem_cons]
theorem At9 {h x : TTold} {l : List TTold} : x ∈ insT h l ↔ x = h ∨ x ∈ l := by rw [(AT0 h l).mem_iff, List.mem_cons]
theorem AT1 {h : THeld} : ∀ {l : List THeld}, (l.Pairwise fun a b => a.Txn < b.Txn) → (∀ g ∈ l, g.Txn ≠ h.Txn) → (insH h l).Pairwise fun a b => a.Txn < b.Txn
  | [], _, _ => by unfold insH; simp
  | g :: l, hs, hn => by
    obtain ⟨h1, h2⟩ := List.pairwise_cons.1 hs
    have hg := hn g List.mem_cons_self
    unfold insH
    split
    · rename_i hlt
      refine List.pairwise_cons.2 ⟨fun y hy => ?_, hs⟩
      rcases List.mem_cons.1 hy with rfl | hy
      · exact hlt
      · have := h1 y hy; omega
    · refine List.pairwise_cons.2 ⟨fun y hy => ?_, AT1 h2 fun y hy => hn y (List.mem_cons_of_mem _ hy)⟩
      rcases p3.1 hy with rfl | hy
      · omega
      · exact h1 y hy
theorem AT2 {h : TTold} : ∀ {l : List TTold}, (l.Pairwise fun a b => a.Txn < b.Txn) → (∀ g ∈ l, g.Txn ≠ h.Txn) → (insT h l).Pairwise fun a b => a.Txn < b.Txn
  | [], _, _ => by unfold insT; simp
  | g :: l, hs, hn => by
    obtain ⟨h1, h2⟩ := List.pairwise_cons.1 hs
    have hg := hn g List.mem_cons_self
    unfold insT
    split
    · rename_i hlt
      refine List.pairwise_cons.2 ⟨fun y hy => ?_, hs⟩
      rcases List.mem_cons.1 hy with rfl | hy
      · exact hlt
      · have := h1 y hy; omega
    · refine List.pairwise_cons.2 ⟨fun y hy => ?_, AT2 h2 fun y hy => hn y (List.mem_cons_of_mem _ hy)⟩
      rcases At9.1 hy with rfl | hy
      · omega
      · exact h1 y hy
theorem hasH_iff {l : List THeld} {n : Int} : hasH l n = true ↔ ∃ h ∈ l, h.Txn = n := by unfold hasH; simp
theorem t2 {l : List THeld} {n : Int} : hasH l n = false ↔ ∀ h ∈ l, h.Txn ≠ n := by unfold hasH; simp
theorem hasT_iff {l : List TTold} {n : Int} : hasT l n = true ↔ ∃ h ∈ l, h.Txn = n := by unfold hasT; simp
theorem Ab0 {l : List TTold} {n : Int} : hasT l n = false ↔ ∀ h ∈ l, h.Txn ≠ n := by unfold hasT; simp
theorem n0 {l : List THeld} {n : Int} {h : THeld} : h ∈ lessH l n ↔ h ∈ l ∧ h.Txn ≠ n := by unfold lessH; simp
theorem Ae5 : ∀ {l : List TTold} {a : Int}, (l.Pairwise fun a b => a.Txn < b.Txn) → (∀ t ∈ l, a < t.Txn ∧ t.Txn ≤ 60) → l.length ≤ (60 - a).toNat
  | [], _, _, _ => Nat.zero_le _
  | t :: l, a, hs, h => by
    obtain ⟨h1, h2⟩ := List.pairwise_cons.1 hs
    have ht := h t List.mem_cons_self
    have := Ae5 (a := t.Txn) h2 fun u hu => ⟨h1 u hu, (h u (List.mem_cons_of_mem _ hu)).2⟩
    rw [I5]; omega
theorem Ae6 {n : Int} : isTxnR n = true ↔ 1 ≤ n ∧ n ≤ 60 := by unfold isTxnR within; simp
theorem AK3 {a b : List TCell} {k : Str} (h : findC a k = findC b k) : lastTime a k = lastTime b k := by unfold lastTime; rw [h]
theorem Az1 {a b : List TCell} {k : Str} (h : findC a k = findC b k) : fullC a k = fullC b k := by unfold fullC; rw [h]
theorem Al8 {l : List TCell} {k : Str} {c : TCell} (h : findC l k = some c) : c ∈ l ∧ c.Key = k := by
  unfold findC at h
  exact ⟨List.mem_of_find?_eq_some h, by simpa using List.find?_some h⟩
theorem BD4 {s : TState} (g : GS s) (k : Str) : lastTime s.Cells k ≤ s.Floor := by
  have h0 := g.floor.1
  cases h : findC s.Cells k with
  | none => unfold lastTime; rw [h]; exact h0
  | some c =>
    obtain ⟨h1, h2⟩ := Al8 h
    rw [← h2]; exact g.last c h1
theorem AO2 {s s' : TState} {t : TTold} (h : s.Floor ≤ s'.Floor) (ht : tFits s t = true) : tFits s' t = true := by
  unfold tFits within at *
  split
  · rename_i hy; rw [if_pos hy] at ht; simp only [Bool.and_eq_true, decide_eq_true_eq] at *; omega
  · rename_i hy; rw [if_neg hy] at ht; exact ht
theorem gs_floor {s : TState} (g : GS s) {t : Int} (h1 : s.Floor ≤ t) (h2 : t ≤ 100000) : GS ⟨t, s.Cells, s.Held, s.Told⟩ := by
  have h0 := g.floor.1
  exact ⟨⟨by dsimp only; omega, h2⟩, g.cells, fun h hm => ⟨(g.good h hm).1, by have := (g.good h hm).2.1; dsimp only; omega, (g.good h hm).2.2⟩, g.hsort, g.apart, g.hlen, g.room, g.tlen, fun c hc => by have := g.last c hc; dsimp only; omega, fun u hu => ⟨(g.told u hu).1, AO2 h1 (g.told u hu).2.1, (g.told u hu).2.2⟩, g.tsort⟩
theorem BM2 {r : TRec} (h : goodRec r = true) (hk : r.Kind = 1) : r.Yes = false := by
  unfold goodRec at h
  rw [if_pos hk] at h
  unfold good1 at h
  simp only [Bool.and_eq_true, Bool.not_eq_true'] at h
  exact h.2
theorem Au0 {r : TRec} (h : goodRec r = true) : 0 ≤ r.Time ∧ r.Time ≤ 100000 := (goodR h).time
theorem hRec_hOf {r : TRec} (h : goodRec r = true) (hk : r.Kind = 1) : hRec (hOf r) = r := by
  have := BM2 h hk
  unfold hRec hOf
  cases r; simp_all
theorem hWs_ins {h : THeld} {l : List THeld} {w : TWrite} : w ∈ hWs (insH h l) ↔ w ∈ hWs l ++ h.Writes := by
  rw [AA0, List.mem_append, AA0]
  constructor
  · rintro ⟨x, hx, hw⟩
    rcases p3.1 hx with rfl | hx
    · exact Or.inr hw
    · exact Or.inl ⟨x, hx, hw⟩
  · rintro (⟨x, hx, hw⟩ | hw)
    · exact ⟨x, p3.2 (Or.inr hx), hw⟩
    · exact ⟨h, p3.2 (Or.inl rfl), hw⟩
theorem fits_iff {s : TState} {rs : List Str} {ws : List TWrite} : fits s rs ws = true ↔ (∀ h ∈ s.Held, apart h rs ws = true) ∧ s.Held.length < 12 ∧ room s.Cells (hWs s.Held ++ ws) = true := by
  unfold fits; simp only [Bool.and_eq_true, List.all_eq_true, decide_eq_true_eq]
theorem BG6 {s : TState} (g : GS s) {r : TRec} (hr : goodRec r = true) (hk : r.Kind = 1) (hh : hasH s.Held r.Txn = false) (hT : hasT s.Told r.Txn = false) (ht : s.Floor < r.Time) (hf : fits s r.Reads r.Writes = true) :
    GS ⟨r.Time, s.Cells, insH (hOf r) s.Held, s.Told⟩ := by
  obtain ⟨f1, f2, f3⟩ := fits_iff.1 hf
  have htm := Au0 hr
  have h0 := g.floor.1
  have hnh := t2.1 hh
  have hnt := Ab0.1 hT
  refine ⟨⟨htm.1, htm.2⟩, g.cells, fun h hm => ?_, AT1 g.hsort hnh, ?_, ?_, ?_, g.tlen, fun c hc => ?_, fun t hm => ⟨(g.told t hm).1, AO2 (by dsimp only; omega) (g.told t hm).2.1, ?_⟩, g.tsort⟩
  · rcases p3.1 hm with rfl | hm
    · refine ⟨by rw [hRec_hOf hr hk]; exact hr, Int.le_refl _, fun w hw => ?_⟩
      have := BD4 g w.Key
      show lastTime s.Cells w.Key < r.Time
      omega
    · obtain ⟨g1, g2, g3⟩ := g.good h hm
      exact ⟨g1, by dsimp only; omega, g3⟩
  · refine ((AC0 (hOf r) s.Held).pairwise_iff (fun {x y} hxy => AS7 hxy)).2 (List.pairwise_cons.2 ⟨fun y hy => AS7 (f1 y hy), g.apart⟩)
  · rw [(AC0 _ _).length_eq, I5]; omega
  · rw [Al5 fun w => hWs_ins]; exact f3
  · have := g.last c hc; dsimp only; omega
  · refine t2.2 fun h hm e => ?_
    rcases p3.1 hm with rfl | hm
    · exact hnt t ‹_› e.symm
    · exact t2.1 (g.told t ‹_›).2.2 h hm e
theorem Ae7 {s : TState} (g : GS s) {n fl : Int} {q : List TCell} {t : TTold} (hn : t.Txn = n) (hx : isTxnR n = true) (hT : hasT s.Told n = false) (hfl : s.Floor ≤ fl ∧ fl ≤ 100000) (hq : goodCells q = true) (hlast : ∀ c ∈ q, lastTime q c.Key ≤ fl)
    (hkeep : ∀ k ∈ lessH s.Held n, ∀ w ∈ k.Writes, findC q w.Key = findC s.Cells w.Key) (hkeys : ∀ k ∈ cKeys q, k ∈ cKeys s.Cells ∨ k ∈ wKeys (hWs s.Held)) (htf : (if t.Yes = true then within t.Time 1 fl else t.Time == 0) = true) : GS ⟨fl, q, lessH s.Held n, insT t s.Told⟩ := by
  have h0 := g.floor.1
  have hnt := Ab0.1 hT
  have hsub : (lessH s.Held n).Sublist s.Held := List.filter_sublist
  have htl : ∀ u ∈ insT t s.Told, isTxnR u.Txn = true ∧ tFits ⟨fl, q, lessH s.Held n, insT t s.Told⟩ u = true ∧ hasH (lessH s.Held n) u.Txn = false := fun u hu => by
    rcases At9.1 hu with rfl | hu
    · exact ⟨hn ▸ hx, htf, t2.2 fun h hm e => (n0.1 hm).2 (e.trans hn)⟩
    · obtain ⟨a, b, c⟩ := g.told u hu
      exact ⟨a, AO2 hfl.1 b, t2.2 fun h hm e => t2.1 c h (n0.1 hm).1 e⟩
  have hts := AT2 (h := t) g.tsort fun u hu => by rw [hn]; exact hnt u hu
  refine ⟨⟨by dsimp only; omega, hfl.2⟩, hq, fun h hm => ?_, g.hsort.sublist hsub, g.apart.sublist hsub, Nat.le_trans hsub.length_le g.hlen, ?_, ?_, hlast, htl, hts⟩
  · obtain ⟨g1, g2, g3⟩ := g.good h (n0.1 hm).1
    exact ⟨g1, by dsimp only; omega, fun w hw => by rw [show lastTime q w.Key = _ from AK3 (hkeep h hm w hw)]; exact g3 w hw⟩
  · have hr := g.room
    unfold room at hr ⊢
    simp only [Bool.and_eq_true, List.all_eq_true, decide_eq_true_eq] at hr ⊢
    refine ⟨fun w hw => ?_, Nat.le_trans (AS8 fun k hk => ?_) hr.2⟩
    · obtain ⟨h, hm, hwh⟩ := AA0.1 hw
      rw [Az1 (hkeep h hm w hwh)]
      exact hr.1 w (AA0.2 ⟨h, (n0.1 hm).1, hwh⟩)
    · rcases hk with hk | hk
      · exact hkeys k hk
      · refine Or.inr ?_
        unfold wKeys at hk ⊢
        obtain ⟨w, hw, e⟩ := List.mem_map.1 hk
        obtain ⟨h, hm, hwh⟩ := AA0.1 hw
        exact List.mem_map.2 ⟨w, AA0.2 ⟨h, (n0.1 hm).1, hwh⟩, e⟩
  · have := Ae5 (a := 0) hts fun u hu => by have := Ae6.1 (htl u hu).1; omega
    exact this
theorem put_keys {l q : List TCell} {w : List TWrite} {t : Int} (hw : (w.map TWrite.Key).Nodup) (hl : adj cLess l = true) (hq : adj cLess q = true) (h : putAll l w t = some q) : ∀ k ∈ cKeys q, k ∈ cKeys l ∨ k ∈ wKeys w := fun k hk => by
  obtain ⟨h1, h2⟩ := AN9 hw hl h
  by_cases hm : k ∈ w.map TWrite.Key
  · exact Or.inr hm
  · left
    unfold cKeys at hk
    obtain ⟨c, hc, e⟩ := List.mem_map.1 hk
    obtain ⟨i, hi⟩ := List.getElem?_of_mem hc
    have h3 := At2 hq hi
    rw [e, h2 k hm] at h3
    obtain ⟨h4, h5⟩ := Al8 h3
    exact List.mem_map.2 ⟨c, h4, e⟩
theorem put_last {l q : List TCell} {w : List TWrite} {t : Int} (hw : (w.map TWrite.Key).Nodup) (hl : adj cLess l = true) (h : putAll l w t = some q) (k : Str) : lastTime q k = t ∨ lastTime q k = lastTime l k := by
  obtain ⟨h1, h2⟩ := AN9 hw hl h
  by_cases hm : k ∈ w.map TWrite.Key
  · obtain ⟨x, hx, e⟩ := List.mem_map.1 hm
    have := h1 x hx
    rw [e] at this
    left; unfold lastTime lastV; rw [this]; simp
  · right; exact AK3 (h2 k hm)
theorem AD4 {l : List THeld} {n : Int} {h : THeld} (e : findH l n = some h) : h ∈ l ∧ h.Txn = n := by
  unfold findH at e
  exact ⟨List.mem_of_find?_eq_some e, by simpa using List.find?_some e⟩
theorem AO3 {l : List THeld} {n : Int} : findH l n = none ↔ hasH l n = false := by
  unfold findH hasH; rw [List.find?_eq_none, List.any_eq_false]
theorem Az2 {s : TState} (g : GS s) {h : THeld} (hm : h ∈ s.Held) : goodWrites h.Writes = true := by
  have := (g.good h hm).1
  unfold goodRec hRec at this
  rw [if_pos rfl] at this
  unfold good1 at this
  simp only [Bool.and_eq_true] at this
  exact this.1.1.2
theorem BG7 {s : TState} (g : GS s) {h k : THeld} (hh : h ∈ s.Held) (hk : k ∈ s.Held) (hne : k.Txn ≠ h.Txn) : apart k h.Reads h.Writes = true := by
  obtain ⟨i, hi⟩ := List.getElem?_of_mem hh
  obtain ⟨j, hj⟩ := List.getElem?_of_mem hk
  obtain ⟨i1, i2⟩ := List.getElem?_eq_some_iff.1 hi
  obtain ⟨j1, j2⟩ := List.getElem?_eq_some_iff.1 hj
  have hp := List.pairwise_iff_getElem.1 g.apart
  rcases Nat.lt_trichotomy i j with h1 | h1 | h1
  · have := hp i j i1 j1 h1
    rw [i2, j2] at this; exact AS7 this
  · subst h1; rw [hi] at hj; injection hj with hj; exact (hne (by rw [hj])).elim
  · have := hp j i j1 i1 h1
    rw [i2, j2] at this; exact this
theorem gs_yes {s : TState} (g : GS s) {h : THeld} (hm : h ∈ s.Held) {t : Int} (hx : isTxnR h.Txn = true) (hT : hasT s.Told h.Txn = false) (ht : h.Time ≤ t ∧ t ≤ 100000) {q : List TCell} (hp : putAll s.Cells h.Writes t = some q) (hq : goodCells q = true) :
    GS ⟨if s.Floor < t then t else s.Floor, q, lessH s.Held h.Txn, insT ⟨h.Txn, true, t⟩ s.Told⟩ := by
  have hw := At7 (Az2 g hm)
  have ha := (f8 g.cells).2.1
  have hqa := (f8 hq).2.1
  have h0 := g.floor
  have ht1 : 1 ≤ h.Time := by
    have := (g.good h hm).1
    unfold goodRec hRec at this
    rw [if_pos rfl] at this
    unfold good1 isTime within at this
    simp only [Bool.and_eq_true, decide_eq_true_eq] at this
    omega
  refine Ae7 g rfl hx hT (by split <;> omega) hq (fun c hc => ?_) (fun k hk w hwk => ?_) (fun k hk => ?_) ?_
  · rcases put_last hw ha hp c.Key with e | e
    · rw [e]; split <;> omega
    · rw [e]; have := BD4 g c.Key; split <;> omega
  · obtain ⟨k1, k2⟩ := n0.1 hk
    refine (AN9 hw ha hp).2 _ fun hmem => ?_
    obtain ⟨v, hv, e⟩ := List.mem_map.1 hmem
    exact ((AB9.1 (BG7 g hm k1 k2)).2 v hv).1 w hwk e.symm
  · rcases put_keys hw ha hqa hp k hk with e | e
    · exact Or.inl e
    · refine Or.inr ?_
      unfold wKeys at e ⊢
      obtain ⟨w, hw2, e⟩ := List.mem_map.1 e
      exact List.mem_map.2 ⟨w, AA0.2 ⟨h, hm, hw2⟩, e⟩
  · rw [if_pos rfl]; unfold within; simp only [Bool.and_eq_true, decide_eq_true_eq]; split <;> omega
theorem good2_of {r : TRec} (h : goodRec r = true) (h4 : r.Kind ≠ 4) (h1 : r.Kind ≠ 1) : good2 r = true := by
  unfold goodRec at h
  rw [if_neg h1] at h
  split at h
  · exact h
  · cases h
theorem Ah6 {l : List TCell} {w : List TWrite} {t : Int} (h : (putP l w t).2 = true) : putAll l w t = some (putP l w t).1 ∧ goodCells (putP l w t).1 = true := by
  unfold putP at h ⊢
  cases hp : putAll l w t with
  | none => rw [hp] at h; cases h
  | some q => rw [hp] at h; dsimp only at h ⊢; exact ⟨rfl, by rw [e9]; exact h⟩
theorem gs_apply {s : TState} (g : GS s) {r : TRec} (hr : goodRec r = true) (h : (applyS s r).2 = true) : GS (applyS s r).1 := by
  have htm := Au0 hr
  unfold applyS at h ⊢
  by_cases h4 : r.Kind = 4
  · rw [if_pos h4] at h ⊢
    exact gs_floor g (by have := of_decide_eq_true h; omega) htm.2
  · rw [if_neg h4] at h ⊢
    by_cases hT : hasT s.Told r.Txn = true
    · rw [if_pos hT] at h; cases h
    · rw [if_neg hT] at h ⊢
      rw [Bool.not_eq_true] at hT
      by_cases h1 : r.Kind = 1
      · rw [if_pos h1] at h ⊢
        simp only [Bool.and_eq_true, Bool.not_eq_true', decide_eq_true_eq] at h
        exact BG6 g hr h1 h.1.1 hT h.1.2 h.2
      · rw [if_neg h1] at h ⊢
        have h2 := good2_of hr h4 h1
        unfold good2 at h2
        simp only [Bool.and_eq_true, Bool.or_eq_true, Bool.not_eq_true', beq_iff_eq] at h2
        obtain ⟨⟨_, hx⟩, h3⟩ := h2
        by_cases hy : r.Yes = true
        · rw [if_pos hy] at h ⊢
          cases hf : findH s.Held r.Txn with
          | none => rw [hf] at h; cases h
          | some k =>
            rw [hf] at h
            dsimp only at h ⊢
            by_cases hlt : r.Time < k.Time
            · rw [if_pos hlt] at h; cases h
            · rw [if_neg hlt] at h ⊢
              by_cases hp : (putP s.Cells k.Writes r.Time).2 = true
              · rw [if_pos hp]
                obtain ⟨p1, p2⟩ := Ah6 hp
                obtain ⟨k1, k2⟩ := AD4 hf
                have := gs_yes g k1 (t := r.Time) (by rw [k2]; exact hx) (by rw [k2]; exact hT) ⟨by omega, htm.2⟩ p1 p2
                rw [k2] at this
                unfold doneS; rw [hy]; exact this
              · rw [if_neg hp] at h; cases h
        · rw [if_neg hy]
          rw [Bool.not_eq_true] at hy
          rw [hy] at h3
          simp only [Bool.false_eq_true, false_and, true_and, false_or] at h3
          have h0 := g.floor
          unfold doneS
          refine Ae7 g rfl hx hT ⟨Int.le_refl _, h0.2⟩ g.cells g.last (fun _ _ _ _ => rfl) (fun k hk => Or.inl hk) ?_
          rw [hy, h3]; rfl
theorem BD5 : GS zState where
  floor := by decide
  cells := by decide
  good := fun h hm => by cases hm
  hsort := List.Pairwise.nil
  apart := List.Pairwise.nil
  hlen := by decide
  room := by
    unfold room roomKs
    rw [Bool.and_eq_true]
    refine ⟨rfl, decide_eq_true ?_⟩
    exact Nat.le_trans (AG7 _) (by decide)
  tlen := by decide
  last := fun c hc => by cases hc
  told := fun t ht => by cases ht
  tsort := List.Pairwise.nil
end Go.M

set_option maxRecDepth 100000
namespace Go.Proofs.YtoaoicnnimjbeaaGreat
open Go Go.AV Go.M
attribute [local irreducible] OpW OpA OpS AWP FSpec ESpec RetOk RvDen Le Ev GuardIs
theorem m0 (a b c : Int) : FSpec Tryz.prog 61 [AV.int a, AV.int b, AV.int c] (AV.bool (within a b c)) := by
 refine E2 Tryz.func61 rfl Tryz.ntmps61 rfl ?_
 refine A3 (A2 ?_)
 refine A1 rfl (B6 rfl E9) ?_
 refine A4 (A3 (A2 ?_))
 refine A5 rfl ?_
 refine A5 rfl ?_
 refine A1 rfl (f5 rfl (A0 rfl) (A0 rfl)) ?_
 refine A5 rfl ?_
 refine D3 rfl (fun hc => B8 rfl (A0 rfl)) ?_
 refine D3 rfl (fun hc => B8 rfl (A0 rfl)) ?_
 refine D3 rfl (fun hc => X2 rfl (A9 rfl hc) (A9 rfl hc)) ?_
 refine A1 rfl (J5 rfl (A0 rfl) (F7 rfl)) ?_
 refine B3 rfl ?_
 refine A4 ?_
 refine C2 ?_
 exact I3 rfl (C1 rfl (by first | rfl | (refine congrArg AV.bool ?_; simp_all; done)))
theorem f0 (a b c : Int) : FSpec Tryz.prog 63 [AV.int a, AV.int b, AV.int c] (AV.bool (within a b c)) := by
 refine E2 Tryz.func63 rfl Tryz.ntmps63 rfl ?_
 refine A3 (A2 ?_)
 refine A1 rfl (B6 rfl E9) ?_
 refine A4 (A3 (A2 ?_))
 refine A5 rfl ?_
 refine A5 rfl ?_
 refine A1 rfl (f5 rfl (A0 rfl) (A0 rfl)) ?_
 refine A5 rfl ?_
 refine D3 rfl (fun hc => B8 rfl (A0 rfl)) ?_
 refine D3 rfl (fun hc => B8 rfl (A0 rfl)) ?_
 refine D3 rfl (fun hc => X2 rfl (A9 rfl hc) (A9 rfl hc)) ?_
 refine A1 rfl (J5 rfl (A0 rfl) (F7 rfl)) ?_
 refine B3 rfl ?_
 refine A4 ?_
 refine C2 ?_
 exact I3 rfl (C1 rfl (by first | rfl | (refine congrArg AV.bool ?_; simp_all; done)))
theorem Az3 (c : UInt8) : FSpec Tryz.prog 97 [AV.byte c] (AV.bool (lowDig c)) := by
 refine E2 Tryz.func97 rfl Tryz.ntmps97 rfl ?_
 refine A3 (A2 ?_)
 refine A1 rfl (B6 rfl E9) ?_
 refine A4 (A3 (A2 ?_))
 refine A5 rfl ?_
 refine A1 rfl (f5 rfl (A0 rfl) B4) ?_
 refine A5 rfl ?_
 refine D3 rfl (fun hc => B8 rfl (A0 rfl)) ?_
 refine D3 rfl (fun hc => X2 rfl (A9 rfl hc) B4) ?_
 refine A1 rfl (J5 rfl (A0 rfl) (F7 rfl)) ?_
 refine A5 rfl ?_
 refine F3 rfl (fun hc => B8 rfl (A0 rfl)) ?_
 refine F3 rfl (fun hc => f5 rfl (A9 rfl hc) B4) ?_
 refine F3 rfl (fun hc => B8 rfl (A9 rfl hc)) ?_
 refine J7 rfl rfl (E6 rfl rfl rfl) (fun hc => B8 rfl (A0 rfl)) ?_
 refine J7 rfl rfl (E6 rfl rfl rfl) (fun hc => X2 rfl (A9 rfl hc) B4) ?_
 refine F3 rfl (fun hc => J5 rfl (A9 rfl hc) (T1 rfl hc)) ?_
 refine A1 rfl (Q8 rfl (A0 rfl) (F7 rfl)) ?_
 refine B3 rfl ?_
 refine A4 ?_
 refine C2 ?_
 exact I3 rfl (C1 rfl (by first | rfl | (refine congrArg AV.bool ?_; simp_all; done)))
theorem idxB_ext (s : Str) (c : UInt8) : ESpec Tryz.prog 170 [AV.str s, AV.byte c] (AV.int (idxB s c)) := espec_mk fun R w vs h => by
  obtain ⟨v, u, rfl, h1, h2⟩ := denV_two h
  have e1 : v = .string ⟨s.toArray⟩ := h1
  have e2 : u = .int .u8 c.toNat := h2
  subst e1; subst e2
  refine ⟨.int .i64 (idxB s c), ?_, rfl⟩
  rw [run_callFunc_indexByte Tryz.func170 (by kernel_rfl) (by kernel_rfl) (by kernel_rfl) (by kernel_rfl), run_indexByte_string]
  simp [idxB]
theorem BG8 (s : Str) (c : UInt8) : FSpec Tryz.prog 140 [AV.str s, AV.byte c] (AV.int (idxB s c)) := by
 refine E2 Tryz.func140 rfl Tryz.ntmps140 rfl ?_
 refine A3 (A2 ?_)
 refine A1 rfl (B6 rfl B4) ?_
 refine A4 (A3 (A2 ?_))
 refine A5 rfl ?_
 refine A5 rfl ?_
 refine A1 rfl (w_ext rfl rfl (idxB_ext _ _) (A6 (A0 rfl) (A6 (A0 rfl) C0))) ?_
 refine B3 rfl ?_
 refine A4 ?_
 refine C2 ?_
 exact I3 rfl (C1 rfl (by first | rfl | (refine congrArg AV.bool ?_; simp_all; done)))
theorem BM3 (s : Str) (c : UInt8) : FSpec Tryz.prog 98 [AV.str s, AV.byte c] (AV.int (idxB s c)) := by
 refine E2 Tryz.func98 rfl Tryz.ntmps98 rfl ?_
 refine A3 (A2 ?_)
 refine A1 rfl (B6 rfl B4) ?_
 refine A4 (A3 (A2 ?_))
 refine A5 rfl ?_
 refine A5 rfl ?_
 refine A1 rfl (D7 rfl Tryz.call140 rfl (BG8 _ _) (A6 (A0 rfl) (A6 (A0 rfl) C0))) ?_
 refine B3 rfl ?_
 refine A4 ?_
 refine C2 ?_
 exact I3 rfl (C1 rfl (by first | rfl | (refine congrArg AV.bool ?_; simp_all; done)))
theorem Al9 (s o : Str) (hs : s.length ≤ 4611686018427387904) : FSpec Tryz.prog 62 [AV.str s, AV.str o] (AV.bool (hasB s o)) := by
 refine E2 Tryz.func62 rfl Tryz.ntmps62 rfl ?_
 refine A3 (A2 ?_)
 refine A1 rfl (B6 rfl E9) ?_
 refine A4 (A3 (A3 (A2 ?_)))
 refine A5 rfl ?_
 refine A1 rfl (AE3 rfl Q3 (A0 rfl)) ?_
 refine A1 rfl (B8 rfl B4) ?_
 refine A4 (C7 ?_)
 refine J0 [(0, _), (1, _), (7, _)] _ (fun (i : Nat) => i ≤ s.length ∧ hasB s o = hasB (s.drop i) o) (fun (i : Nat) => []) (fun (i : Nat) => [(8, AV.int i)]) (fun (i : Nat) => s.length - i) (0) ?_ (K2 ⟨rfl, rfl, rfl, rfl, trivial⟩) ?_
 ·exact ⟨Nat.zero_le _, rfl⟩
 intro i hinv
 refine A3 (A2 ?_)
 refine A1 rfl (J8 rfl (A0 rfl) (A0 rfl)) ?_
 refine A4 (A3 ?_)
 refine B9 (A0 rfl) ?_ ?_
 ·intro h9
  have k9 := of_decide_eq_true h9; try simp only [A8] at k9
  have hlt : i < s.length := by have := of_decide_eq_true h9; omega
  obtain ⟨c, hc⟩ := get_some hlt
  refine C3 (A3 (C7 (A3 (A2 ?_))))
  refine A5 rfl ?_
  refine B3 rfl ?_
  refine A4 (A3 (A2 ?_))
  refine A5 rfl ?_
  refine A5 rfl ?_
  refine A1 rfl (AB2 rfl Q3 (A0 rfl) (A0 rfl) (by first | omega | (simp only [C8, A7, szR] at *; omega)) (by assumption)) ?_
  refine A1 rfl (D7 rfl Tryz.call97 rfl (Az3 _) (A6 (A0 rfl) C0)) ?_
  refine A1 rfl (M2 rfl (A0 rfl)) ?_
  refine A5 rfl ?_
  refine D3 rfl (fun hc => B8 rfl (A0 rfl)) ?_
  refine D3 rfl (fun hc => B8 rfl (A0 rfl)) ?_
  refine D3 rfl (fun hc => B8 rfl (A0 rfl)) ?_
  refine D3 rfl (fun hc => AB2 rfl Q3 (A9 rfl hc) (A9 rfl hc) (by first | omega | ((try simp only [C8, A7, szR] at *); omega) | (have hc2 := hc; simp only [Q0, beq_iff_eq, bne_iff_ne, A8, D9] at hc2; omega)) (by assumption)) ?_
  refine D3 rfl (fun hc => D7 rfl Tryz.call98 rfl (BM3 _ _) (A6 (A9 rfl hc) (A6 (A9 rfl hc) C0))) ?_
  refine D3 rfl (fun hc => J8 rfl (A9 rfl hc) B4) ?_
  refine A1 rfl (J5 rfl (A0 rfl) (F7 rfl)) ?_
  refine A4 ?_
  refine B9 (A0 rfl) ?_ ?_
  ·intro h23
   have hfin : hasB s o = false := by rw [hinv.2, drop_some hc, Ak4, h23]; rfl
   refine A3 (A2 ?_)
   refine A1 rfl (B6 rfl E9) ?_
   refine A4 ?_
   refine C2 ?_
   exact I3 rfl (C1 rfl (by first | exact congrArg AV.bool hfin.symm | exact congrArg AV.bool (by rw [hinv.2, List.drop_eq_nil_of_le hge]; rfl)))
  intro h23
  refine C3 (A2 ?_)
  refine A1 rfl (G0 rfl (A0 rfl) B4 (by first | omega | (simp only [C8, A7, szR] at *; omega))) ?_
  refine A5 rfl ?_
  refine A4 ?_
  refine K4 i (i + 1) ?_ ?_ (K2 ⟨rfl, rfl, rfl, rfl, trivial⟩)
  ·exact ⟨by omega, by rw [hinv.2, drop_some hc, Ak4, h23]; rfl⟩
  omega
 intro h9
 have k9 := of_decide_eq_false h9; try simp only [A8] at k9
 have hge : s.length ≤ i := by have := of_decide_eq_false h9; omega
 refine G1 ?_
 refine A3 (A2 ?_)
 refine A1 rfl (B6 rfl E9) ?_
 refine A4 ?_
 refine C2 ?_
 exact I3 rfl (C1 rfl (by first | exact congrArg AV.bool hfin.symm | exact congrArg AV.bool (by rw [hinv.2, List.drop_eq_nil_of_le hge]; rfl)))
theorem AT3 (s o : Str) (hs : s.length ≤ 4611686018427387904) (ho : o.length ≤ 4611686018427387904) : FSpec Tryz.prog 64 [AV.str s, AV.str o] (AV.bool (l3Bytes s o)) := by
 refine E2 Tryz.func64 rfl Tryz.ntmps64 rfl ?_
 refine A3 (A2 ?_)
 refine A1 rfl (B6 rfl E9) ?_
 refine A4 (A3 (A3 (A2 ?_)))
 refine A1 rfl (B6 rfl B4) ?_
 refine A4 (C7 ?_)
 refine J0 [(0, _), (1, _)] _ (fun (i : Nat) => i ≤ s.length ∧ l3Bytes s o = l3Bytes (s.drop i) o) (fun (i : Nat) => []) (fun (i : Nat) => [(5, AV.int i)]) (fun (i : Nat) => s.length - i) (0) ?_ (K2 ⟨rfl, rfl, rfl, trivial⟩) ?_
 ·exact ⟨Nat.zero_le _, rfl⟩
 intro i hinv
 have hinv0 := hinv; clear hinv
 refine A3 (A3 (A2 ?_))
 refine A5 rfl ?_
 refine A5 rfl ?_
 refine A1 rfl (AE3 rfl Q3 (A0 rfl)) ?_
 refine A1 rfl (J8 rfl (A0 rfl) (A0 rfl)) ?_
 refine A4 ?_
 refine B9 (A0 rfl) ?_ ?_
 ·intro h11
  have k11 := of_decide_eq_true h11; try simp only [A8] at k11
  have hlt : i < s.length := by have := of_decide_eq_true h11; omega
  obtain ⟨c, hc⟩ := get_some hlt
  refine C3 (A3 (C7 (A3 (A2 ?_))))
  refine A5 rfl ?_
  refine A5 rfl ?_
  refine A1 rfl (AB2 rfl Q3 (A0 rfl) (A0 rfl) (by first | omega | (simp only [C8, A7, szR] at *; omega)) (by assumption)) ?_
  refine A1 rfl (f5 rfl (A0 rfl) B4) ?_
  refine A5 rfl ?_
  refine D3 rfl (fun hc => B8 rfl (A0 rfl)) ?_
  refine D3 rfl (fun hc => B8 rfl (A0 rfl)) ?_
  refine D3 rfl (fun hc => AB2 rfl Q3 (A9 rfl hc) (A9 rfl hc) (by first | omega | ((try simp only [C8, A7, szR] at *); omega) | (have hc2 := hc; simp only [Q0, beq_iff_eq, bne_iff_ne, A8, D9] at hc2; omega)) (by assumption)) ?_
  refine D3 rfl (fun hc => X2 rfl (A9 rfl hc) B4) ?_
  refine A1 rfl (J5 rfl (A0 rfl) (F7 rfl)) ?_
  refine A5 rfl ?_
  refine F3 rfl (fun hc => B8 rfl (A0 rfl)) ?_
  refine F3 rfl (fun hc => B8 rfl (A0 rfl)) ?_
  refine F3 rfl (fun hc => AB2 rfl Q3 (A9 rfl hc) (A9 rfl hc) (by first | omega | ((try simp only [C8, A7, szR] at *); omega) | (have hc2 := hc; simp only [Q0, beq_iff_eq, bne_iff_ne, A8, D9] at hc2; omega)) (by assumption)) ?_
  refine F3 rfl (fun hc => f5 rfl (A9 rfl hc) B4) ?_
  refine F3 rfl (fun hc => B8 rfl (A9 rfl hc)) ?_
  refine J7 rfl rfl (E6 rfl rfl rfl) (fun hc => B8 rfl (A0 rfl)) ?_
  refine J7 rfl rfl (E6 rfl rfl rfl) (fun hc => B8 rfl (A0 rfl)) ?_
  refine J7 rfl rfl (E6 rfl rfl rfl) (fun hc => AB2 rfl Q3 (A9 rfl hc) (A9 rfl hc) (by first | omega | ((try simp only [C8, A7, szR] at *); omega) | (have hc2 := hc; simp only [Q0, beq_iff_eq, bne_iff_ne, A8, D9] at hc2; omega)) (by assumption)) ?_
  refine J7 rfl rfl (E6 rfl rfl rfl) (fun hc => X2 rfl (A9 rfl hc) B4) ?_
  refine F3 rfl (fun hc => J5 rfl (A9 rfl hc) (T1 rfl hc)) ?_
  refine A1 rfl (Q8 rfl (A0 rfl) (F7 rfl)) ?_
  refine B3 rfl ?_
  refine A4 (A3 (A3 (A2 ?_)))
  refine A1 rfl (B6 rfl B4) ?_
  refine A4 (C7 ?_)
  refine P3 [(0, _), (1, _), (5, _), (8, _), (9, _), (10, _), (11, _), (14, _), (15, _), (16, _), (17, _), (18, _), (23, _), (24, _), (35, _)] _ (fun (k : Nat) (b : Bool) => k ≤ o.length ∧ (lowDig c || o.any fun d => ((c.toNat : Int) == (d.toNat : Int))) = (b || (o.drop k).any fun d => ((c.toNat : Int) == (d.toNat : Int)))) (fun (k : Nat) (b : Bool) => []) (fun (k : Nat) (b : Bool) => [(6, AV.bool b), (7, AV.int k)]) (fun (k : Nat) (b : Bool) => o.length - k) (0) (lowDig c) ?_ (K2 ⟨rfl, rfl, rfl, rfl, rfl, rfl, rfl, rfl, rfl, rfl, rfl, rfl, rfl, rfl, rfl, rfl, rfl, trivial⟩) ?_
  ·exact ⟨Nat.zero_le _, rfl⟩
  intro k b hinv
  refine A3 (A3 (A2 ?_))
  refine A5 rfl ?_
  refine A5 rfl ?_
  refine A1 rfl (AE3 rfl Q3 (A0 rfl)) ?_
  refine A1 rfl (J8 rfl (A0 rfl) (A0 rfl)) ?_
  refine A4 ?_
  refine B9 (A0 rfl) ?_ ?_
  ·intro h39
   have k39 := of_decide_eq_true h39; try simp only [A8] at k39
   have hlt2 : k < o.length := by have := of_decide_eq_true h39; omega
   obtain ⟨d, hd⟩ := get_some hlt2
   refine C3 (A3 (C7 ?_))
   refine L1 (by kernel_rfl) (by kernel_rfl) rfl ?_
   refine B2 rfl rfl (B8 rfl (A0 rfl)) ?_
   refine B2 rfl rfl (B8 rfl (A0 rfl)) ?_
   refine E0 rfl (J1 rfl rfl rfl) (fun hc => B8 rfl (A0 rfl)) ?_
   refine E0 rfl (J1 rfl rfl rfl) (fun hc => B8 rfl (A0 rfl)) ?_
   refine E0 rfl (J1 rfl rfl rfl) (fun hc => AB2 rfl Q3 (A9 rfl hc) (A9 rfl hc) (by first | omega | ((try simp only [C8, A7, szR] at *); omega) | (have hc2 := hc; simp only [Q0, beq_iff_eq, bne_iff_ne, A8, D9] at hc2; omega)) (by assumption)) ?_
   refine E0 rfl (J1 rfl rfl rfl) (fun hc => B8 rfl (A0 rfl)) ?_
   refine E0 rfl (J1 rfl rfl rfl) (fun hc => B8 rfl (A0 rfl)) ?_
   refine E0 rfl (J1 rfl rfl rfl) (fun hc => AB2 rfl Q3 (A9 rfl hc) (A9 rfl hc) (by first | omega | ((try simp only [C8, A7, szR] at *); omega) | (have hc2 := hc; simp only [Q0, beq_iff_eq, bne_iff_ne, A8, D9] at hc2; omega)) (by assumption)) ?_
   refine E0 rfl (J1 rfl rfl rfl) (fun hc => O1 rfl (A9 rfl hc) (A9 rfl hc)) ?_
   refine B2 rfl rfl (Q8 rfl (A0 rfl) (F7 rfl)) ?_
   refine B2 rfl rfl (B6 rfl (A0 rfl)) ?_
   refine P7 ?_
   refine A2 ?_
   refine A5 rfl ?_
   refine A1 rfl (G0 rfl (A0 rfl) B4 (by first | omega | (simp only [C8, A7, szR] at *; omega))) ?_
   refine B3 rfl ?_
   refine A4 ?_
   refine O2 k b (k + 1) ((b || ((c.toNat : Int) == (d.toNat : Int)))) ?_ ?_ (K2 ⟨rfl, rfl, rfl, rfl, rfl, rfl, rfl, rfl, rfl, rfl, rfl, rfl, rfl, rfl, rfl, rfl, rfl, trivial⟩)
   ·exact ⟨by omega, by rw [hinv.2, drop_some hd, List.any_cons, Bool.or_assoc]⟩
   omega
  intro h39
  have k39 := of_decide_eq_false h39; try simp only [A8] at k39
  have hge2 : o.length ≤ k := by have := of_decide_eq_false h39; omega
  have hg : (lowDig c || o.any fun d => ((c.toNat : Int) == (d.toNat : Int))) = b := by rw [hinv.2, List.drop_eq_nil_of_le hge2]; simp
  refine G1 ?_
  refine A3 (A2 ?_)
  refine A5 rfl ?_
  refine A1 rfl (M2 rfl (A0 rfl)) ?_
  refine A4 ?_
  refine B9 (A0 rfl) ?_ ?_
  ·intro h53
   have hfin : l3Bytes s o = false := by rw [hinv0.2, drop_some hc, AS0, hg]; cases b <;> simp_all
   refine A3 (A2 ?_)
   refine A1 rfl (B6 rfl E9) ?_
   refine A4 ?_
   refine C2 ?_
   exact I3 rfl (C1 rfl (by first | exact congrArg AV.bool hfin.symm | exact congrArg AV.bool (by rw [hinv0.2, List.drop_eq_nil_of_le hge]; rfl)))
  intro h53
  have hb : b = true := by cases b <;> simp_all
  refine C3 (A2 ?_)
  refine A5 rfl ?_
  refine A1 rfl (G0 rfl (A0 rfl) B4 (by first | omega | (simp only [C8, A7, szR] at *; omega))) ?_
  refine B3 rfl ?_
  refine A4 ?_
  refine K4 i (i + 1) ?_ ?_ (K2 ⟨rfl, rfl, rfl, trivial⟩)
  ·exact ⟨by omega, by rw [hinv0.2, drop_some hc, AS0, hg, hb]; rfl⟩
  omega
 intro h11
 have k11 := of_decide_eq_false h11; try simp only [A8] at k11
 have hge : s.length ≤ i := by have := of_decide_eq_false h11; omega
 refine G1 ?_
 refine A3 (A2 ?_)
 refine A1 rfl (B6 rfl E9) ?_
 refine A4 ?_
 refine C2 ?_
 exact I3 rfl (C1 rfl (by first | exact congrArg AV.bool hfin.symm | exact congrArg AV.bool (by rw [hinv0.2, List.drop_eq_nil_of_le hge]; rfl)))
theorem AT4 (s : Str) (hs : s.length ≤ 4611686018427387904) : FSpec Tryz.prog 27 [AV.str s] (AV.bool (goodKey s)) := by
 refine E2 Tryz.func27 rfl Tryz.ntmps27 rfl ?_
 refine A3 (A2 ?_)
 refine A1 rfl (B6 rfl E9) ?_
 refine A4 (A3 (A2 ?_))
 refine A5 rfl ?_
 refine A1 rfl (AE3 rfl Q3 (A0 rfl)) ?_
 refine A1 rfl (D7 rfl Tryz.call61 rfl (m0 _ _ _) (A6 (A0 rfl) (A6 B4 (A6 B4 C0)))) ?_
 refine A5 rfl ?_
 refine D3 rfl (fun hc => B8 rfl (A0 rfl)) ?_
 refine D3 rfl (fun hc => D7 rfl Tryz.call62 rfl (Al9 _ _ (by omega)) (A6 (A9 rfl hc) (A6 (N0 (l := [46, 47]) rfl) C0))) ?_
 refine A1 rfl (J5 rfl (A0 rfl) (F7 rfl)) ?_
 refine B3 rfl ?_
 refine A4 ?_
 refine C2 ?_
 exact I3 rfl (C1 rfl (by first | rfl | (refine congrArg AV.bool ?_; simp_all; done)))
theorem Au1 (s : Str) (hs : s.length ≤ 4611686018427387904) : FSpec Tryz.prog 156 [AV.str s] (AV.bool (goodVal s)) := by
 refine E2 Tryz.func156 rfl Tryz.ntmps156 rfl ?_
 refine A3 (A2 ?_)
 refine A1 rfl (B6 rfl E9) ?_
 refine A4 (A3 (A2 ?_))
 refine A5 rfl ?_
 refine A1 rfl (AE3 rfl Q3 (A0 rfl)) ?_
 refine A1 rfl (X2 rfl (A0 rfl) B4) ?_
 refine A5 rfl ?_
 refine D3 rfl (fun hc => B8 rfl (A0 rfl)) ?_
 refine D3 rfl (fun hc => D7 rfl Tryz.call62 rfl (Al9 _ _ (by omega)) (A6 (A9 rfl hc) (A6 (N0 (l := [46, 45, 44, 95]) rfl) C0))) ?_
 refine A1 rfl (J5 rfl (A0 rfl) (F7 rfl)) ?_
 refine B3 rfl ?_
 refine A4 ?_
 refine C2 ?_
 exact I3 rfl (C1 rfl (by first | rfl | (refine congrArg AV.bool ?_; simp_all; done)))
theorem w3 (s : Str) (hs : s.length ≤ 4611686018427387904) : FSpec Tryz.prog 30 [AV.str s] (AV.bool (l3Key s)) := by
 refine E2 Tryz.func30 rfl Tryz.ntmps30 rfl ?_
 refine A3 (A2 ?_)
 refine A1 rfl (B6 rfl E9) ?_
 refine A4 (A3 (A2 ?_))
 refine A5 rfl ?_
 refine A1 rfl (AE3 rfl Q3 (A0 rfl)) ?_
 refine A1 rfl (D7 rfl Tryz.call63 rfl (f0 _ _ _) (A6 (A0 rfl) (A6 B4 (A6 B4 C0)))) ?_
 refine A5 rfl ?_
 refine D3 rfl (fun hc => B8 rfl (A0 rfl)) ?_
 refine D3 rfl (fun hc => D7 rfl Tryz.call64 rfl (AT3 _ _ (by omega) (by decide)) (A6 (A9 rfl hc) (A6 (N0 (l := [46, 47]) rfl) C0))) ?_
 refine A1 rfl (J5 rfl (A0 rfl) (F7 rfl)) ?_
 refine B3 rfl ?_
 refine A4 ?_
 refine C2 ?_
 exact I3 rfl (C1 rfl (by first | rfl | (refine congrArg AV.bool ?_; simp_all; done)))
end Go.Proofs.YtoaoicnnimjbeaaGreat
