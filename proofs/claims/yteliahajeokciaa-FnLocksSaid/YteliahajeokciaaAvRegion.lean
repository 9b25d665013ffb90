/- Regions: chains of operations on abstract environments; a region that draws its order is walked once, in the text's order. -/
import Derived.Test.YteliahajeokciaaAvCore
import Derived.StillTail
set_option linter.unusedVariables false
namespace Go.AV
open Go.RowKit (Below)

theorem Oper.wp_mono2 {P : Program} {o : Oper} {a : Act} {w : World} {K K' : Act → World → Prop} {Q Q' : Exit → Act → World → Prop} (h : ∀ a w, K a w → K' a w) (hq : ∀ e a w, Q e a w → Q' e a w)
    (hh : o.wp P a w K Q) : o.wp P a w K' Q' := by
  unfold Oper.wp at *
  generalize (execOp a.eval o).run P w = r at *
  cases r with
  | ok n w' =>
    cases n <;> simp only [Oper.upon] at hh ⊢ <;>
      first
        | exact h _ _ hh
        | exact Calls.mono hh (fun e w'' he => by cases e <;> first | exact h _ _ he | exact hq _ _ _ he | (obtain ⟨x, y, z⟩ := he; exact ⟨x, y, hq _ _ _ z⟩))
        | exact Rows.mono hh (fun _ _ he => h _ _ he)
  | halt x w' => cases x <;> simp only [Oper.upon] at hh ⊢ <;> first | exact hq _ _ _ hh | exact hh

def tmpsOf (o : Oper) : List Tmp := o.op.operands.toList.filterMap fun | .tmp t => some t | _ => none
def updF (d : Option Tmp) (x : AV) (E : EnvF) : EnvF := match d with
  | some d => fun t => bif Nat.beq d t then some x else E t
  | none => E
def putv (d : Option Tmp) (x : AV) (env : List (Nat × AV)) : List (Nat × AV) := match d with
  | some d => (d, x) :: env
  | none => env
theorem getv_putv (d : Option Tmp) (x : AV) (env : List (Nat × AV)) : (getv · (putv d x env)) = updF d x (getv · env) := by
  cases d <;> rfl
theorem nat_beq_ne {a b : Nat} (h : a ≠ b) : Nat.beq a b = false := by
  cases hb : Nat.beq a b with
  | false => rfl
  | true => exact absurd (Nat.eq_of_beq_eq_true hb) h
theorem updF_other {d : Option Tmp} {x : AV} {E : EnvF} {t : Nat} (h : d ≠ some t) : updF d x E t = E t := by
  cases d with
  | none => rfl
  | some d => simp [updF, nat_beq_ne (fun e : d = t => h (by rw [e]))]
theorem updF_comm {d e : Option Tmp} {x y : AV} {E : EnvF} (h : ∀ t, d = some t → e ≠ some t) : updF d x (updF e y E) = updF e y (updF d x E) := by
  funext t
  by_cases hd : d = some t
  · have he := h t hd
    rw [updF_other he]
    subst hd
    simp [updF]
  · rw [updF_other hd]
    by_cases he : e = some t
    · subst he; simp [updF]
    · rw [updF_other he, updF_other he, updF_other hd]

section
variable {P : Program} {G : Nat → Prop} {n : Nat} {own : List Own}

/-- An operation, its guard apart: from what its operands denote, one value that denotes x. -/
def OpW (P : Program) (G : Nat → Prop) (n : Nat) (own : List Own) (o : Oper) (E : EnvF) (x : AV) : Prop :=
  ∀ w0 R0 R a w, Core G w0 R0 own R w → a.tmps.size = n → (∀ t ∈ tmpsOf o, ∀ y, E t = some y → y.den R (a.tmps.getD t undef)) →
    o.wp P a w (fun a' w' => ∃ v R', a' = a.put o.dst v ∧ Core G w0 R0 own R' w' ∧ RSub R R' ∧ x.den R' v) (fun _ _ _ => False)
def OpA (P : Program) (G : Nat → Prop) (n : Nat) (own : List Own) (ops : Array Oper) (o : Oper) (E : EnvF) (x : AV) : Prop :=
  ∀ w0 R0 R a w, Core G w0 R0 own R w → a.tmps.size = n → (∀ t ∈ o.looksAt ops, ∀ y, E t = some y → y.den R (a.tmps.getD t undef)) →
    (Region.wanted o (yielded ops a.tmps) = true → o.wp P a w (fun a' w' => ∃ v R', a' = a.put o.dst v ∧ Core G w0 R0 own R' w' ∧ RSub R R' ∧ x.den R' v) (fun _ _ _ => False)) ∧
    (Region.wanted o (yielded ops a.tmps) = false → x.den R undef)
theorem OpA.congr {ops : Array Oper} {o : Oper} {E E' : EnvF} {x : AV} (h : OpA P G n own ops o E x) (he : ∀ t ∈ o.looksAt ops, E' t = E t) : OpA P G n own ops o E' x :=
  fun w0 R0 R a w h1 h2 h3 => h w0 R0 R a w h1 h2 fun t ht y hy => h3 t ht y (by rw [he t ht]; exact hy)

theorem looks_tmps {ops : Array Oper} {o : Oper} {t : Tmp} (h : t ∈ tmpsOf o) : t ∈ o.looksAt ops := List.mem_append_left _ h
theorem opA_plain {ops : Array Oper} {o : Oper} {E : EnvF} {x : AV} (hg : o.guard = none) (h : OpW P G n own o E x) : OpA P G n own ops o E x :=
  fun w0 R0 R a w h1 h2 h3 => ⟨fun _ => h w0 R0 R a w h1 h2 fun t ht => h3 t (looks_tmps ht), fun hw => by simp [Region.wanted, hg] at hw⟩
theorem tmps_bool {a : Act} {d : Nat} {g : Bool} (h : a.tmps.getD d undef = .bool g) : a.tmps[d]? = some (.bool g) := by
  rw [Array.getD_eq_getD_getElem?] at h
  cases hx : a.tmps[d]? with
  | none => rw [hx] at h; cases h
  | some v => rw [hx] at h; simp at h; rw [h]
theorem tmps_undef {a : Act} {d : Nat} (h : a.tmps.getD d undef = undef) : ∀ b, a.tmps[d]? ≠ some (.bool b) := fun b hb => by
  rw [Array.getD_eq_getD_getElem?, hb] at h
  cases h
/-- What the guard says. -/
def GuardIs (ops : Array Oper) (o : Oper) (E : EnvF) (c : Bool) : Prop :=
  ∀ (R : RHeap) (a : Act), (∀ t ∈ o.looksAt ops, ∀ y, E t = some y → y.den R (a.tmps.getD t undef)) → Region.wanted o (yielded ops a.tmps) = c
theorem looks_guard {ops : Array Oper} {o : Oper} {j d : Nat} {b : Bool} (hg : o.guard = some (j, b)) (hj : (ops[j]?).bind (·.dst) = some d) : d ∈ o.looksAt ops := by
  unfold Oper.looksAt
  rw [hg]
  simp [hj]
theorem wanted_of {ops : Array Oper} {o : Oper} {j d : Nat} {b g : Bool} {a : Act} (hg : o.guard = some (j, b)) (hj : (ops[j]?).bind (·.dst) = some d) (h : a.tmps[d]? = some (.bool g)) :
    Region.wanted o (yielded ops a.tmps) = (g == b) := by
  simp only [Region.wanted, hg, yielded, hj, Option.bind_some, h]
  cases g <;> cases b <;> rfl
theorem wanted_not {ops : Array Oper} {o : Oper} {j d : Nat} {b : Bool} {a : Act} (hg : o.guard = some (j, b)) (hj : (ops[j]?).bind (·.dst) = some d) (h : ∀ g, a.tmps[d]? ≠ some (.bool g)) :
    Region.wanted o (yielded ops a.tmps) = false := by
  simp only [Region.wanted, hg, yielded, hj, Option.bind_some]
  cases hx : a.tmps[d]? with
  | none => rfl
  | some v => cases v <;> first | rfl | exact absurd hx (h _)
theorem guard_t {ops : Array Oper} {o : Oper} {E : EnvF} {j d : Nat} {g : Bool} (hg : o.guard = some (j, true)) (hj : (ops[j]?).bind (·.dst) = some d) (hE : E d = some (AV.bool g)) : GuardIs ops o E g := fun R a h => by
  rw [wanted_of hg hj (tmps_bool (h d (looks_guard hg hj) _ hE))]; cases g <;> rfl
theorem guard_f {ops : Array Oper} {o : Oper} {E : EnvF} {j d : Nat} {g : Bool} (hg : o.guard = some (j, false)) (hj : (ops[j]?).bind (·.dst) = some d) (hE : E d = some (AV.bool g)) : GuardIs ops o E (!g) := fun R a h => by
  rw [wanted_of hg hj (tmps_bool (h d (looks_guard hg hj) _ hE))]; cases g <;> rfl
theorem guard_wt {ops : Array Oper} {o : Oper} {E : EnvF} {j d : Nat} {c g : Bool} (hg : o.guard = some (j, true)) (hj : (ops[j]?).bind (·.dst) = some d) (hE : E d = some (AV.whn c (AV.bool g))) : GuardIs ops o E (c && g) := fun R a h => by
  have := h d (looks_guard hg hj) _ hE
  cases c with
  | true => rw [wanted_of hg hj (tmps_bool (this.1 rfl))]; cases g <;> rfl
  | false => rw [wanted_not hg hj (tmps_undef (this.2 rfl))]; rfl
theorem guard_wf {ops : Array Oper} {o : Oper} {E : EnvF} {j d : Nat} {c g : Bool} (hg : o.guard = some (j, false)) (hj : (ops[j]?).bind (·.dst) = some d) (hE : E d = some (AV.whn c (AV.bool g))) : GuardIs ops o E (c && !g) := fun R a h => by
  have := h d (looks_guard hg hj) _ hE
  cases c with
  | true => rw [wanted_of hg hj (tmps_bool (this.1 rfl))]; cases g <;> rfl
  | false => rw [wanted_not hg hj (tmps_undef (this.2 rfl))]; rfl
theorem opA_grd {ops : Array Oper} {o : Oper} {E : EnvF} {x : AV} {c : Bool} (hg : GuardIs ops o E c) (h : c = true → OpW P G n own o E x) : OpA P G n own ops o E (AV.whn c x) :=
  fun w0 R0 R a w h1 h2 h3 => by
    rw [hg R a h3]
    refine ⟨fun hc => ?_, fun hc => ⟨fun e => (by rw [hc] at e; cases e), fun _ => rfl⟩⟩
    exact Oper.wp_mono2 (fun a' w' ⟨v, R', k1, k2, k3, k4⟩ => ⟨v, R', k1, k2, k3, fun _ => k4, fun e => (by rw [hc] at e; cases e)⟩) (fun _ _ _ h => h)
      (h hc w0 R0 R a w h1 h2 fun t ht => h3 t (looks_tmps ht))

/-! ### In the text's order, over environments as lists -/
def AChain (P : Program) (G : Nat → Prop) (n : Nat) (own : List Own) (ops : Array Oper) : List Oper → List (Nat × AV) → (List (Nat × AV) → Prop) → Prop
  | [], env, K => K env
  | o :: rest, env, K => ∃ x, OpA P G n own ops o (getv · env) x ∧ AChain P G n own ops rest (putv o.dst x env) K
theorem ch_nil {ops : Array Oper} {env : List (Nat × AV)} {K : List (Nat × AV) → Prop} (h : K env) : AChain P G n own ops [] env K := h
theorem ch_plain {ops : Array Oper} {o : Oper} {rest : List Oper} {env : List (Nat × AV)} {K : List (Nat × AV) → Prop} {d : Nat} {x : AV} (hg : o.guard = none) (hd : o.dst = some d)
    (h : OpW P G n own o (getv · env) x) (k : AChain P G n own ops rest ((d, x) :: env) K) : AChain P G n own ops (o :: rest) env K :=
  ⟨x, opA_plain hg h, by rw [hd]; exact k⟩
theorem ch_grd {ops : Array Oper} {o : Oper} {rest : List Oper} {env : List (Nat × AV)} {K : List (Nat × AV) → Prop} {d : Nat} {x : AV} {c : Bool} (hd : o.dst = some d) (hg : GuardIs ops o (getv · env) c)
    (h : c = true → OpW P G n own o (getv · env) x) (k : AChain P G n own ops rest ((d, AV.whn c x) :: env) K) : AChain P G n own ops (o :: rest) env K :=
  ⟨_, opA_grd hg h, by rw [hd]; exact k⟩

/-! ### Whatever order is drawn -/
def qOpA (P : Program) (G : Nat → Prop) (n : Nat) (own : List Own) (ops : Array Oper) (i : Nat) (K : EnvF → Prop) (E : EnvF) : Prop :=
  match ops[i]? with
  | none => K E
  | some o => ∃ x, OpA P G n own ops o E x ∧ K (updF o.dst x E)
def wpAnyA (P : Program) (G : Nat → Prop) (n : Nat) (own : List Own) (md : Region.Mode) (ops : Array Oper) (Q : EnvF → Prop) : Nat → Array Bool → EnvF → Prop
  | 0, listed, E => Region.ready md ops listed = [] ∧ Q E
  | fuel + 1, listed, E =>
    (Region.ready md ops listed = [] → Q E) ∧
    ∀ i ∈ Region.ready md ops listed, qOpA P G n own ops i (wpAnyA P G n own md ops Q fuel (listed.setIfInBounds i true)) E
theorem qOpA_mono {ops : Array Oper} {i : Nat} {E : EnvF} {K K' : EnvF → Prop} (h : ∀ E, K E → K' E) (hh : qOpA P G n own ops i K E) : qOpA P G n own ops i K' E := by
  unfold qOpA at *
  split
  · exact h _ (by simpa [*] using hh)
  · rename_i o ho
    simp only [ho] at hh
    obtain ⟨x, h1, h2⟩ := hh
    exact ⟨x, h1, h _ h2⟩
theorem getD_put {a : Act} {d t : Nat} {v : Value} : (a.put (some d) v).tmps.getD t undef = if d = t ∧ d < a.tmps.size then v else a.tmps.getD t undef := by
  simp only [Act.put, Array.getD_eq_getD_getElem?, Array.getElem?_setIfInBounds]
  by_cases h : d = t
  · subst h
    by_cases hl : d < a.tmps.size
    · simp [hl]
    · simp [hl]
  · simp [h]
theorem size_put (a : Act) (d : Option Tmp) (v : Value) : (a.put d v).tmps.size = a.tmps.size := by cases d <;> simp [Act.put]
theorem defers_put (a : Act) (d : Option Tmp) (v : Value) : (a.put d v).defers = a.defers := by cases d <;> rfl
theorem envOk_put {E : EnvF} {R R' : RHeap} {a : Act} {d : Option Tmp} {x : AV} {v : Value} (h : EnvOk E R a) (hr : RSub R R') (hd : ∀ k, d = some k → k < a.tmps.size) (hx : x.den R' v) : EnvOk (updF d x E) R' (a.put d v) := by
  intro t y hy
  cases d with
  | none => exact y.mono hr (h t y hy)
  | some d =>
    rw [getD_put]
    by_cases hdt : d = t
    · subst hdt
      simp [updF] at hy
      rw [if_pos ⟨rfl, hd d rfl⟩, ← hy]; exact hx
    · rw [if_neg (fun h => hdt h.1)]
      rw [updF_other (fun e => hdt (by injection e))] at hy
      exact y.mono hr (h t y hy)
theorem wpAny_of_A {md : Region.Mode} {ops : Array Oper} (hdst : ∀ (i : Nat) (o : Oper), ops[i]? = some o → ∀ d, o.dst = some d → d < n) {w0 : World} {R0 R00 : RHeap} {Q : EnvF → Prop} {Q' : Exit → Act → World → Prop}
    (hQ : ∀ E R a w, RSub R00 R → Core G w0 R0 own R w → EnvOk E R a → a.tmps.size = n → a.defers = [] → Q E → Q' .normal a w) : ∀ (fuel : Nat) (listed : Array Bool) (E : EnvF) (R : RHeap) (a : Act) (w : World),
    RSub R00 R → Core G w0 R0 own R w → EnvOk E R a → a.tmps.size = n → a.defers = [] → wpAnyA P G n own md ops Q fuel listed E → wpAny P md ops Q' fuel listed a w
  | 0, _, E, R, a, w, h1, h2, h3, h4, h5, h => ⟨h.1, hQ E R a w h1 h2 h3 h4 h5 h.2⟩
  | fuel + 1, listed, E, R, a, w, h1, h2, h3, h4, h5, h => by
    refine ⟨fun h0 => hQ E R a w h1 h2 h3 h4 h5 (h.1 h0), fun i hi => ?_⟩
    have hq := h.2 i hi
    unfold qOpA at hq
    unfold wpOp
    cases ho : ops[i]? with
    | none =>
      simp only [ho] at hq
      exact wpAny_of_A hdst hQ fuel _ E R a w h1 h2 h3 h4 h5 hq
    | some o =>
      simp only [ho] at hq
      obtain ⟨x, hx, hk⟩ := hq
      obtain ⟨k1, k2⟩ := hx w0 R0 R a w h2 h4 fun t _ y hy => h3 t y hy
      have hdo : ∀ k, o.dst = some k → k < a.tmps.size := fun k e => by rw [h4]; exact hdst i o ho k e
      by_cases hw : Region.wanted o (yielded ops a.tmps) = true
      · simp only [hw, if_true]
        refine .inl (Oper.wp_mono2 (fun a' w' ⟨v, R', e1, e2, e3, e4⟩ => ?_) (fun _ _ _ h => h.elim) (k1 hw))
        subst e1
        exact wpAny_of_A hdst hQ fuel _ (updF o.dst x E) R' _ w' (h1.trans e3) e2 (envOk_put h3 e3 hdo e4) (by rw [size_put]; exact h4) (by rw [defers_put]; exact h5) hk
      · have hwf : Region.wanted o (yielded ops a.tmps) = false := by simpa using hw
        simp only [hwf, Bool.false_eq_true, if_false]
        exact wpAny_of_A hdst hQ fuel _ (updF o.dst x E) R _ w h1 h2 (envOk_put h3 (RSub.refl _) hdo (k2 hwf)) (by rw [size_put]; exact h4) (by rw [defers_put]; exact h5) hk
theorem OpA.upd {ops : Array Oper} {oi oj : Oper} {E : EnvF} {x y : AV} (h : OpA P G n own ops oi E x) (hap : ∀ d, oj.dst = some d → d ∉ oi.looksAt ops) : OpA P G n own ops oi (updF oj.dst y E) x :=
  h.congr fun t ht => updF_other fun e => hap t e ht
theorem OpA.unupd {ops : Array Oper} {oi oj : Oper} {E : EnvF} {x y : AV} (h : OpA P G n own ops oi (updF oj.dst y E) x) (hap : ∀ d, oj.dst = some d → d ∉ oi.looksAt ops) : OpA P G n own ops oi E x :=
  h.congr fun t ht => (updF_other fun e => hap t e ht).symm
theorem qOpA_put {ops : Array Oper} {j : Nat} {oi oj : Oper} {x : AV} (hj : ops[j]? = some oj) (hap : oi.apart ops oj = true) {K : EnvF → Prop} {E : EnvF}
    (hy : OpA P G n own ops oi E x) (h : qOpA P G n own ops j K (updF oi.dst x E)) :
    qOpA P G n own ops j (fun E' => OpA P G n own ops oi E' x ∧ K (updF oi.dst x E')) E := by
  obtain ⟨h1, h2, h3⟩ := Oper.apart_spec hap
  unfold qOpA at *
  simp only [hj] at *
  obtain ⟨y, hu, hn⟩ := h
  exact ⟨y, hu.unupd h1, hy.upd h3, by rw [updF_comm h2]; exact hn⟩
theorem wpAnyA_first {md : Region.Mode} {ops : Array Oper} {Q : EnvF → Prop} {i : Nat} {oi : Oper} {x : AV} (hi : ops[i]? = some oi) :
    ∀ (fuel : Nat) (listed : Array Bool) (E : EnvF),
      (∀ j oj, ops[j]? = some oj → j ≠ i → listed.getD j true = false → (∀ e ∈ oj.after, Region.binds md e = true → e.on ≠ i) → oi.apart ops oj = true) →
      i ∈ Region.ready md ops listed → OpA P G n own ops oi E x →
      wpAnyA P G n own md ops Q fuel (listed.setIfInBounds i true) (updF oi.dst x E) → wpAnyA P G n own md ops Q (fuel + 1) listed E := by
  have put : ∀ {K : EnvF → Prop} {E : EnvF}, OpA P G n own ops oi E x → K (updF oi.dst x E) → qOpA P G n own ops i K E := fun hy hK => by
    unfold qOpA
    simp only [hi]
    exact ⟨x, hy, hK⟩
  intro fuel
  induction fuel with
  | zero =>
    intro listed E _ hr hy H
    refine ⟨fun h => (by rw [h] at hr; cases hr), fun j hj => ?_⟩
    by_cases hji : j = i
    · subst hji; exact put hy H
    · have := ready_mono hj hji
      rw [H.1] at this
      cases this
  | succ fuel ih =>
    intro listed E hfree hr hy H
    refine ⟨fun h => (by rw [h] at hr; cases hr), fun j hj => ?_⟩
    by_cases hji : j = i
    · subst hji; exact put hy H
    · have h1 := H.2 j (ready_mono hj hji)
      obtain ⟨hjun, oj, hoj, hall⟩ := mem_ready.1 hj
      have hnot : ∀ e ∈ oj.after, Region.binds md e = true → e.on ≠ i := fun e he hb heq => by
        have h1 := hall e he hb
        have h0 := (mem_ready.1 hr).1
        rw [heq] at h1
        rcases Nat.lt_or_ge i listed.size with h' | h'
        · simp [h'] at h0 h1; rw [h0] at h1; cases h1
        · simp [Array.getElem?_eq_none h'] at h1
      have h2 := qOpA_put hoj (hfree j oj hoj hji hjun hnot) hy h1
      have hfree' : ∀ k ok, ops[k]? = some ok → k ≠ i → (listed.setIfInBounds j true).getD k true = false →
          (∀ e ∈ ok.after, Region.binds md e = true → e.on ≠ i) → oi.apart ops ok = true := fun k ok hk hki hun hno => by
        refine hfree k ok hk hki ?_ hno
        by_cases hjk : j = k
        · subst hjk; exact hjun
        · rw [getD_set_ne true hjk] at hun; exact hun
      refine qOpA_mono (fun E' h3 => ih (listed.setIfInBounds j true) E' hfree' (ready_mono hr (Ne.symm hji)) h3.1 ?_) h2
      rw [Array.setIfInBounds_comm _ _ hji]
      exact h3.2
theorem wpAnyA_lex {md : Region.Mode} {ops : Array Oper} {K : List (Nat × AV) → Prop} : ∀ (l : List Oper) (k : Nat) (listed : Array Bool) (env : List (Nat × AV)), (∀ j, l[j]? = ops[k + j]?) →
    Region.lexFrom md ops l.length k listed = true → AChain P G n own ops l env K → wpAnyA P G n own md ops (fun E => ∃ env', E = (getv · env') ∧ K env') l.length listed (getv · env)
  | [], _, _, env, _, hB, h => ⟨by simpa [Region.lexFrom] using hB, env, rfl, h⟩
  | o :: l, k, listed, env, hl, hB, h => by
    have h0 : ops[k]? = some o := by simpa using (hl 0).symm
    simp only [List.length_cons, Region.lexFrom, Bool.and_eq_true] at hB
    obtain ⟨⟨hr, hf⟩, hB'⟩ := hB
    obtain ⟨x, hx, hk⟩ := h
    refine wpAnyA_first h0 l.length listed _ (Region.free_spec h0 hf) (by simpa using hr) hx ?_
    rw [← getv_putv]
    exact wpAnyA_lex l (k + 1) _ _ (fun j => by have := hl (j + 1); simpa [Nat.add_assoc, Nat.add_comm 1 j] using this) hB' hk
theorem core_drew {w0 : World} {R0 R : RHeap} {w : World} (h : Core G w0 R0 own R w) : Core G w0 R0 own R w.drew :=
  ⟨h.os, h.tape, h.output, h.size, h.block, h.rle, h.rold, fun o ho => h.owned o ho, h.fresh, h.sep⟩
def dstOk (n : Nat) (ops : List Oper) : Bool := ops.all fun o => match o.dst with | some d => Nat.blt d n | none => true
theorem dstOk_spec {ops : List Oper} (h : dstOk n ops = true) (i : Nat) (o : Oper) (ho : ops[i]? = some o) (d : Nat) (hd : o.dst = some d) : d < n := by
  have := List.all_eq_true.1 h o (List.mem_of_getElem? ho)
  simp only [hd] at this
  exact Nat.blt_eq.mp this
/-- A region of operations that read, or call functions with a contract: in whatever order it is carried out. -/
theorem awp_region_any {id : Nat} {l : List Oper} {Q : Exit → AState → Prop} {env : List (Nat × AV)} (hm : P.follows .mixedOrders = true) (hB : Region.lexB .any l.toArray = true) (hd : dstOk n l = true)
    (h : AChain P G n own l.toArray l env (fun env' => Q .normal ⟨own, env'⟩)) : AWP P G n (.region id l.toArray true) Q ⟨own, env⟩ := fun w0 R0 R a w ⟨h1, h2, h3, h4⟩ => by
  simp only [Region.lexB, Bool.and_eq_true] at hB
  have := wpAnyA_lex (md := .any) l 0 (Array.replicate l.toArray.size false) env (by simp) (by simpa using hB.2) h
  refine wp_region_any hm (wpAny_of_A (P := P) (G := G) (n := n) (own := own) (R00 := R) (fun i o ho d e => dstOk_spec hd i o (by simpa using ho) d e) ?_ _ _ _ R a _ (RSub.refl _) (core_drew h1) h2 h3 h4 this)
  rintro E R' a' w' g1 g2 g3 g4 g5 ⟨env', rfl, hk⟩
  exact ⟨⟨own, env'⟩, R', hk, g1, g2, g3, g4, g5⟩

/-! ### Operations one behind the other, with effects -/
def OpS (P : Program) (G : Nat → Prop) (n : Nat) (ops : Array Oper) (o : Oper) (s : AState) (K : AState → Prop) : Prop :=
  ∀ w0 R0 R a w, St G n w0 R0 s R a w →
    (Region.wanted o (yielded ops a.tmps) = true → o.wp P a w (fun a' w' => ∃ s' R', K s' ∧ RSub R R' ∧ St G n w0 R0 s' R' a' w') (fun _ _ _ => False)) ∧
    (Region.wanted o (yielded ops a.tmps) = false → ∃ s' R', K s' ∧ RSub R R' ∧ St G n w0 R0 s' R' (a.put o.dst undef) w)
def ASeq (P : Program) (G : Nat → Prop) (n : Nat) (ops : Array Oper) : List Oper → AState → (AState → Prop) → Prop
  | [], s, K => K s
  | o :: rest, s, K => OpS P G n ops o s fun s' => ASeq P G n ops rest s' K
theorem sq_nil {ops : Array Oper} {s : AState} {K : AState → Prop} (h : K s) : ASeq P G n ops [] s K := h
theorem opS_of_A {ops : Array Oper} {o : Oper} {env : List (Nat × AV)} {x : AV} {K : AState → Prop} (hd : ∀ d, o.dst = some d → d < n) (h : OpA P G n own ops o (getv · env) x) (k : K ⟨own, putv o.dst x env⟩) : OpS P G n ops o ⟨own, env⟩ K :=
  fun w0 R0 R a w ⟨h1, h2, h3, h4⟩ => by
    obtain ⟨k1, k2⟩ := h w0 R0 R a w h1 h3 fun t _ y hy => h2 t y hy
    constructor
    · intro hw
      refine Oper.wp_mono2 (fun a' w' hh => ?_) (fun _ _ _ h => h) (k1 hw)
      obtain ⟨v, R', e1, e2, e3, e4⟩ := hh
      subst e1
      exact ⟨⟨own, putv o.dst x env⟩, R', k, e3, e2, by rw [getv_putv]; exact envOk_put h2 e3 (fun q e => by rw [h3]; exact hd q e) e4, by rw [size_put]; exact h3, by rw [defers_put]; exact h4⟩
    · intro hw
      exact ⟨⟨own, putv o.dst x env⟩, R, k, RSub.refl _, h1, by rw [getv_putv]; exact envOk_put h2 (RSub.refl _) (fun q e => by rw [h3]; exact hd q e) (k2 hw), by rw [size_put]; exact h3, by rw [defers_put]; exact h4⟩
theorem sq_plain {ops : Array Oper} {o : Oper} {rest : List Oper} {env : List (Nat × AV)} {K : AState → Prop} {d : Nat} {x : AV} (hg : o.guard = none) (hd : o.dst = some d) (hn : Nat.blt d n = true)
    (h : OpW P G n own o (getv · env) x) (k : ASeq P G n ops rest ⟨own, (d, x) :: env⟩ K) : ASeq P G n ops (o :: rest) ⟨own, env⟩ K :=
  opS_of_A (fun q e => by rw [hd] at e; injection e with e; subst e; exact Nat.blt_eq.mp hn) (opA_plain hg h) (by rw [hd]; exact k)
theorem sq_grd {ops : Array Oper} {o : Oper} {rest : List Oper} {env : List (Nat × AV)} {K : AState → Prop} {d : Nat} {x : AV} {c : Bool} (hd : o.dst = some d) (hn : Nat.blt d n = true) (hg : GuardIs ops o (getv · env) c)
    (h : c = true → OpW P G n own o (getv · env) x) (k : ASeq P G n ops rest ⟨own, (d, AV.whn c x) :: env⟩ K) : ASeq P G n ops (o :: rest) ⟨own, env⟩ K :=
  opS_of_A (fun q e => by rw [hd] at e; injection e with e; subst e; exact Nat.blt_eq.mp hn) (opA_grd hg h) (by rw [hd]; exact k)
theorem wpList_of_seq {ops : Array Oper} {w0 : World} {R0 R00 : RHeap} {Q : Exit → Act → World → Prop} {K : AState → Prop} (hQ : ∀ s' R' a w, K s' → RSub R00 R' → St G n w0 R0 s' R' a w → Q .normal a w) : ∀ (l : List Oper) (s : AState) (R : RHeap) (a : Act) (w : World),
    RSub R00 R → St G n w0 R0 s R a w → ASeq P G n ops l s K → wpList P ops Q l a w
  | [], s, R, a, w, h0, h1, h => hQ s R a w h h0 h1
  | o :: l, s, R, a, w, h0, h1, h => by
    obtain ⟨k1, k2⟩ := h w0 R0 R a w h1
    unfold wpList
    by_cases hw : Region.wanted o (yielded ops a.tmps) = true
    · simp only [hw, if_true]
      exact .inl (Oper.wp_mono2 (fun a' w' ⟨s', R', e1, e2, e3⟩ => wpList_of_seq hQ l s' R' a' w' (h0.trans e2) e3 e1) (fun _ _ _ h => h.elim) (k1 hw))
    · have hwf : Region.wanted o (yielded ops a.tmps) = false := by simpa using hw
      simp only [hwf, Bool.false_eq_true, if_false]
      obtain ⟨s', R', e1, e2, e3⟩ := k2 hwf
      exact wpList_of_seq hQ l s' R' _ w (h0.trans e2) e3 e1
theorem awp_region {id : Nat} {l : List Oper} {Q : Exit → AState → Prop} {s : AState} (h : ASeq P G n l.toArray l s (Q .normal)) : AWP P G n (.region id l.toArray false) Q s := fun w0 R0 R a w hs =>
  wp_region_lit (wpList_of_seq (R00 := R) (K := Q .normal) (fun s' R' a w q r1 r2 => ⟨s', R', q, r1, r2⟩) l s R a w (RSub.refl _) hs h)
/-! ### A region that draws its order: first what reads, in any order; then what each waits for all before it -/
def wpAnyAL (P : Program) (G : Nat → Prop) (n : Nat) (own : List Own) (md : Region.Mode) (ops : Array Oper) (m : Nat) (L : Array Bool → EnvF → Prop) : Nat → Array Bool → EnvF → Prop
  | 0, listed, E => L listed E
  | f + 1, listed, E => Region.ready md ops listed ≠ [] ∧ ∀ i ∈ Region.ready md ops listed, i < m ∧ qOpA P G n own ops i (wpAnyAL P G n own md ops m L f (listed.setIfInBounds i true)) E
theorem wpAny_of_AL {md : Region.Mode} {ops : Array Oper} {m g : Nat} {L : Array Bool → EnvF → Prop} (hdst : ∀ (i : Nat) (o : Oper), ops[i]? = some o → ∀ d, o.dst = some d → d < n) {w0 : World} {R0 R00 : RHeap} {Q' : Exit → Act → World → Prop}
    (hL : ∀ listed E R a w, RSub R00 R → Core G w0 R0 own R w → EnvOk E R a → a.tmps.size = n → a.defers = [] → L listed E → wpAny P md ops Q' g listed a w) : ∀ (f : Nat) (listed : Array Bool) (E : EnvF) (R : RHeap) (a : Act) (w : World),
    RSub R00 R → Core G w0 R0 own R w → EnvOk E R a → a.tmps.size = n → a.defers = [] → wpAnyAL P G n own md ops m L f listed E → wpAny P md ops Q' (f + g) listed a w
  | 0, listed, E, R, a, w, h1, h2, h3, h4, h5, h => by rw [Nat.zero_add]; exact hL _ _ R a w h1 h2 h3 h4 h5 h
  | f + 1, listed, E, R, a, w, h1, h2, h3, h4, h5, h => by
    rw [show f + 1 + g = (f + g) + 1 by omega]
    refine ⟨fun h0 => absurd h0 h.1, fun i hi => ?_⟩
    have hq := (h.2 i hi).2
    unfold qOpA at hq
    unfold wpOp
    cases ho : ops[i]? with
    | none =>
      simp only [ho] at hq
      exact wpAny_of_AL hdst hL f _ E R a w h1 h2 h3 h4 h5 hq
    | some o =>
      simp only [ho] at hq
      obtain ⟨x, hx, hk⟩ := hq
      obtain ⟨k1, k2⟩ := hx w0 R0 R a w h2 h4 fun t _ y hy => h3 t y hy
      have hdo : ∀ k, o.dst = some k → k < a.tmps.size := fun k e => by rw [h4]; exact hdst i o ho k e
      by_cases hw : Region.wanted o (yielded ops a.tmps) = true
      · simp only [hw, if_true]
        refine .inl (Oper.wp_mono2 (fun a' w' ⟨v, R', e1, e2, e3, e4⟩ => ?_) (fun _ _ _ h => h.elim) (k1 hw))
        subst e1
        exact wpAny_of_AL hdst hL f _ (updF o.dst x E) R' _ w' (h1.trans e3) e2 (envOk_put h3 e3 hdo e4) (by rw [size_put]; exact h4) (by rw [defers_put]; exact h5) hk
      · have hwf : Region.wanted o (yielded ops a.tmps) = false := by simpa using hw
        simp only [hwf, Bool.false_eq_true, if_false]
        exact wpAny_of_AL hdst hL f _ (updF o.dst x E) R _ w h1 h2 (envOk_put h3 (RSub.refl _) hdo (k2 hwf)) (by rw [size_put]; exact h4) (by rw [defers_put]; exact h5) hk
theorem wpAnyAL_first {md : Region.Mode} {ops : Array Oper} {m i : Nat} {oi : Oper} {x : AV} {L : Array Bool → EnvF → Prop} (hi : ops[i]? = some oi)
    (hs : Region.sinkB md ops m = true) (hc : Region.chainB md ops m = true) (hn : m < ops.size) (hin : i < m)
    (hdone : ∀ listed E, L listed E → ∀ j ∈ Region.ready md ops listed, m ≤ j) :
    ∀ (f : Nat) (listed : Array Bool) (E : EnvF), HeadInv md ops m listed →
      (∀ j oj, ops[j]? = some oj → j ≠ i → listed.getD j true = false → (∀ e ∈ oj.after, Region.binds md e = true → e.on ≠ i) → oi.apart ops oj = true) →
      i ∈ Region.ready md ops listed → OpA P G n own ops oi E x →
      wpAnyAL P G n own md ops m L f (listed.setIfInBounds i true) (updF oi.dst x E) → wpAnyAL P G n own md ops m L (f + 1) listed E := by
  have put : ∀ {K : EnvF → Prop} {E : EnvF}, OpA P G n own ops oi E x → K (updF oi.dst x E) → qOpA P G n own ops i K E := fun hy hK => by
    unfold qOpA
    simp only [hi]
    exact ⟨x, hy, hK⟩
  intro f
  induction f with
  | zero =>
    intro listed E inv _ hr hy H
    have hun := (mem_ready.1 hr).1
    refine ⟨fun h => (by rw [h] at hr; cases hr), fun j hj => ?_⟩
    have hjn : j < m := by
      rcases Nat.lt_or_ge j m with h | h
      · exact h
      · exact absurd hj (tail_waits hs hc hn inv _ i rfl hin hun j h)
    refine ⟨hjn, ?_⟩
    by_cases hji : j = i
    · subst hji; exact put hy H
    · have := hdone _ _ H j (ready_mono hj hji)
      omega
  | succ f ih =>
    intro listed E inv hfree hr hy H
    have hun := (mem_ready.1 hr).1
    refine ⟨fun h => (by rw [h] at hr; cases hr), fun j hj => ?_⟩
    have hjn : j < m := by
      rcases Nat.lt_or_ge j m with h | h
      · exact h
      · exact absurd hj (tail_waits hs hc hn inv _ i rfl hin hun j h)
    refine ⟨hjn, ?_⟩
    by_cases hji : j = i
    · subst hji; exact put hy H
    · have h1 := (H.2 j (ready_mono hj hji)).2
      obtain ⟨hjun, oj, hoj, hall⟩ := mem_ready.1 hj
      have hnot : ∀ e ∈ oj.after, Region.binds md e = true → e.on ≠ i := fun e he hb heq => by
        have h1 := hall e he hb
        rw [heq, getD_both hun] at h1
        cases h1
      have h2 := qOpA_put hoj (hfree j oj hoj hji hjun hnot) hy h1
      have hfree' : ∀ k ok, ops[k]? = some ok → k ≠ i → (listed.setIfInBounds j true).getD k true = false →
          (∀ e ∈ ok.after, Region.binds md e = true → e.on ≠ i) → oi.apart ops ok = true := fun k ok hk hki hun hno => by
        refine hfree k ok hk hki ?_ hno
        by_cases hjk : j = k
        · subst hjk; exact hjun
        · rw [getD_set_ne true hjk] at hun; exact hun
      refine qOpA_mono (fun E' h3 => ih (listed.setIfInBounds j true) E' (inv.set hj hjn) hfree' (ready_mono hr (Ne.symm hji)) h3.1 ?_) h2
      rw [Array.setIfInBounds_comm _ _ hji]
      exact h3.2
theorem wpAnyAL_lex {md : Region.Mode} {ops : Array Oper} {m g : Nat} {K : List (Nat × AV) → Prop} (hs : Region.sinkB md ops m = true) (hc : Region.chainB md ops m = true) (hn : m < ops.size) :
    ∀ (l : List Oper) (k : Nat) (listed : Array Bool) (env : List (Nat × AV)), (∀ j, j < l.length → l[j]? = ops[k + j]?) → k + l.length = m → HeadInv md ops m listed →
    Region.lexHead md ops g l.length k listed = true → AChain P G n own ops l env K →
    wpAnyAL P G n own md ops m (fun listed' E => Region.seqB md ops g m listed' = true ∧ ∃ env', E = (getv · env') ∧ K env') l.length listed (getv · env)
  | [], k, listed, env, _, hk, _, hB, h => by
    have : k = m := by simpa using hk
    subst this
    exact ⟨by simpa [Region.lexHead] using hB, env, rfl, h⟩
  | o :: l, k, listed, env, hl, hk, inv, hB, h => by
    have h0 : ops[k]? = some o := by simpa using (hl 0 (by simp)).symm
    simp only [List.length_cons, Region.lexHead, Bool.and_eq_true] at hB
    obtain ⟨⟨hr, hf⟩, hB'⟩ := hB
    have hkn : k < m := by simp only [List.length_cons] at hk; omega
    have hr' : k ∈ Region.ready md ops listed := by simpa using hr
    obtain ⟨x, hx, hK⟩ := h
    refine wpAnyAL_first h0 hs hc hn hkn (fun listed' E hL => seqB_ready hL.1) l.length listed _ inv (Region.free_spec h0 hf) hr' hx ?_
    rw [← getv_putv]
    exact wpAnyAL_lex hs hc hn l (k + 1) _ _ (fun j hj => by have := hl (j + 1) (by simp; omega); simpa [Nat.add_assoc, Nat.add_comm 1 j] using this) (by simp only [List.length_cons] at hk; omega) (inv.set hr' hkn) hB' hK
theorem st_drew {s : AState} {w0 : World} {R0 R : RHeap} {a : Act} {w : World} (h : St G n w0 R0 s R a w) : St G n w0 R0 s R a w.drew := ⟨core_drew h.1, h.2⟩
/-- A region that draws its order: 'm' operations that read, then what follows one behind the other. -/
theorem awp_region_tail {id : Nat} {l : List Oper} {Q : Exit → AState → Prop} {env : List (Nat × AV)} (m : Nat) (hm : P.follows .mixedOrders = true) (hB : Region.lexTailB .any l.toArray m = true) (hd : dstOk n l = true)
    (h : AChain P G n own l.toArray (l.take m) env (fun env' => ASeq P G n l.toArray (l.drop m) ⟨own, env'⟩ (Q .normal))) : AWP P G n (.region id l.toArray true) Q ⟨own, env⟩ := fun w0 R0 R a w ⟨h1, h2, h3, h4⟩ => by
  simp only [Region.lexTailB, Bool.and_eq_true, decide_eq_true_eq] at hB
  obtain ⟨⟨⟨⟨hsel, hn⟩, hs⟩, hc⟩, hlex⟩ := hB
  have hn' : m < l.length := by simpa using hn
  have htl : (l.take m).length = m := by simp; omega
  have hdl : (l.drop m).length = l.toArray.size - m := by simp
  have inv0 : HeadInv .any l.toArray m (Array.replicate l.toArray.size false) :=
    ⟨by simp, fun j oj _ hl => (by rw [getD_replicate_false] at hl; cases hl), fun t _ ht => getD_in (by simpa using ht) (getD_replicate_false _ _)⟩
  have H := wpAnyAL_lex (md := .any) (g := l.toArray.size - m) hs hc hn (l.take m) 0 _ env (fun j hj => by
    have hj' : j < m := by rw [htl] at hj; exact hj
    simp [hj']) (by simpa using htl) inv0 (by rw [htl]; exact hlex) h
  refine wp_region_any hm ?_
  have := wpAny_of_AL (w0 := w0) (R0 := R0) (R00 := R) (g := l.toArray.size - m) (Q' := fun e a' w' => ∃ s' R', Q e s' ∧ RSub R R' ∧ St G n w0 R0 s' R' a' w') (fun i o ho d e => dstOk_spec hd i o (by simpa using ho) d e) (fun listed E R' a' w' g1 g2 g3 g4 g5 hL => by
    obtain ⟨hL1, env', rfl, hL2⟩ := hL
    have := wpAny_of_seq (P := P) (md := .any) (Q' := fun e a' w' => ∃ s' R', Q e s' ∧ RSub R R' ∧ St G n w0 R0 s' R' a' w') (l.drop m) m listed a' w' (fun j => by simp [List.getElem?_drop]) (by rw [hdl]; exact hL1)
      (wpList_of_seq (R00 := R) (K := Q .normal) (fun s' R' a w q r1 r2 => ⟨s', R', q, r1, r2⟩) _ (⟨own, env'⟩ : AState) R' a' w' g1 ⟨g2, g3, g4, g5⟩ hL2)
    rwa [hdl] at this) _ _ _ R a _ (RSub.refl _) (core_drew h1) h2 h3 h4 H
  rw [htl, show m + (l.toArray.size - m) = l.toArray.size by omega] at this
  exact this
end
end Go.AV
