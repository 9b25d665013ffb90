/- Texts of the claim, part 2. -/
import Derived.Laws.BytesArg
import Derived.Laws.IdiomStrings
import Derived.Lib.AppendZerosOnto
import Derived.Lib.Overlaps
import Derived.Sort.Grow
import Derived.Lib.LaidTab
import Derived.Lib.ItoaNum
import Derived.Lib.Split
import Derived.Lib.SplitLaws
import Derived.Lib.ConvBytes
import Derived.WideLaws
import Derived.SizedLaws
import Derived.Test.YtmggojkfhodjbaaGreatDoorProg
import Derived.Sort.Walk0
import Derived.Test.YtmggojkfhodjbaaGreatDoorZHistories1
set_option linter.unusedVariables false
set_option linter.unusedSimpArgs false
set_option maxRecDepth 100000
set_option maxHeartbeats 4000000
set_option linter.defProp false
def AC9 := @Go.Proofs.Tryz.sizeOf101
def G9 := @Go.Proofs.Tryz.underlying58
def O3 := @Go.Proofs.Tryz.underlying9
def T5 := @Go.Proofs.Tryz.sizeOf55
def M1 := @Go.Proofs.Tryz.underlying55
def L0 := @Go.Proofs.Tryz.sizeOf141
def y6 := @Go.Proofs.Tryz.underlying183
def V2 := @Go.Proofs.Tryz.underlying320
def U5 := @Go.Proofs.Tryz.underlying96
def AA9 := @Go.Proofs.Tryz.underlying60
def N0 := @Go.Proofs.Tryz.underlying29
def AC6 := @Go.Proofs.Tryz.underlying51
def AQ0 := @Go.Proofs.Tryz.isAgg62
def AA5 := @Go.Proofs.Tryz.sizeOf96
def F0 := @Go.Proofs.Tryz.underlying25
def H7 := @Go.Proofs.Tryz.underlying28
def N8 := @Go.Proofs.Tryz.sizeOf256
def P5 := @Go.Proofs.Tryz.isAgg93
def AI8 := @Go.Proofs.Tryz.sizeOf25
def V4 := @Go.Proofs.Tryz.underlying322
def P8 := @Go.Proofs.Tryz.underlying139
def AD6 := @Go.Proofs.Tryz.isAgg42
def F3 := @Go.Proofs.Tryz.underlying43
def O0 := @Go.Proofs.Tryz.sizeOf62
def K0 := @Go.Proofs.Tryz.sizeOf322
def J2 := @Go.Proofs.Tryz.underlying56
def AF9 := @Go.Proofs.Tryz.underlying22
def Ad1 := @Go.Proofs.Tryz.sizeOf28
def AD8 := @Go.Proofs.Tryz.underlying141
def y9 := @Go.Proofs.Tryz.sizeOf325
def q9 := @Go.Proofs.Tryz.sizeOf146
def Q1 := @Go.Proofs.Tryz.isAgg60
def T1 := @Go.Proofs.Tryz.underlying24
def S9 := @Go.Proofs.Tryz.isAgg32
def S2 := @Go.Proofs.Tryz.sizeOf71
def F2 := @Go.Proofs.Tryz.sizeOf3
def Z0 := @Go.Proofs.Tryz.underlying93
def T7 := @Go.Proofs.Tryz.sizeOf4
def I8 := @Go.Proofs.Tryz.underlying42
def Ad2 := @Go.Proofs.Tryz.sizeOf53
def Ad3 := @Go.Proofs.Tryz.isAgg190
def AN2 := @Go.Proofs.Tryz.underlying222
def AG0 := @Go.Proofs.Tryz.isAgg112
def Ad4 := @Go.Proofs.Tryz.isAgg256
def K1 := @Go.Proofs.Tryz.sizeOf9
def AV5 := @Go.Proofs.Tryz.sizeOf56
def z6 := @Go.Proofs.Tryz.sizeOf228
def E7 := @Go.Proofs.Tryz.sizeOf93
def N6 := @Go.Proofs.Tryz.underlying34
def Q3 := @Go.Proofs.Tryz.underlying73
def AE5 := @Go.Proofs.Tryz.isAgg4
def AM3 := @Go.Proofs.Tryz.sizeOf58
def M2 := @Go.Proofs.Tryz.sizeOf60
def Ad5 := @Go.Proofs.Tryz.sizeOf29
def S3 := @Go.Proofs.Tryz.sizeOf42
def r6 := @Go.Proofs.Tryz.underlying30
def D6 := @Go.Proofs.Tryz.underlying57
def X4 := @Go.Proofs.Tryz.underlying32
def Ad6 := @Go.Proofs.Tryz.sizeOf43
def U6 := @Go.Proofs.Tryz.underlying53
def X2 := @Go.Proofs.Tryz.sizeOf192
def AG1 := @Go.Proofs.Tryz.isAgg228
def U7 := @Go.Proofs.Tryz.underlying27
def AQ9 := @Go.Proofs.Tryz.sizeOf73
def H8 := @Go.Proofs.Tryz.underlying26
def Ad7 := @Go.Proofs.Tryz.sizeOf91
def AB8 := @Go.Proofs.Tryz.isAgg9
def Y7 := @Go.Proofs.Tryz.sizeOf112
def K9 := @Go.Proofs.Tryz.sizeOf82
def V7 := @Go.Proofs.Tryz.sizeOf45
def z7 := @Go.Proofs.Tryz.sizeOf320
def I0 := @Go.Proofs.Tryz.underlying91
def r7 := @Go.Proofs.Tryz.underlying45
def AN3 := @Go.Proofs.Tryz.underlying196
def M3 := @Go.Proofs.Tryz.sizeOf32
def Q4 := @Go.Proofs.Tryz.isAgg3
def AJ7 := @Go.Proofs.Tryz.sizeOf190
def m7 := @Go.Proofs.Tryz.underlying3
def AR5 := @Go.Proofs.Tryz.underlying5
def W4 := @Go.Proofs.Tryz.underlying4
namespace Go.AV
open Go.RowKit (Below)
section
variable {P : Program} {G : Nat → Prop} {n : Nat}
def OpE (P : Program) (G : Nat → Prop) (n : Nat) (W : List Own) (ops : Array Oper) (o : Oper) (E : O8) {α : Type} (ok : α → Prop) (W' : α → List Own) (V : α → AV) : Prop :=
  ∀ w0 R0 R a w, U0 G w0 R0 W R w → a.tmps.size = n → (∀ t ∈ o.looksAt ops, ∀ y, E t = some y → y.den R (a.tmps.getD t undef)) →
    o.wp P a w (fun a' w' => ∃ x v R', ok x ∧ a' = a.put o.dst v ∧ U0 G w0 R0 (W' x) R' w' ∧ L6 R R' ∧ (V x).den R' v) (fun _ _ _ => False)
theorem OpE.congr {W : List Own} {ops : Array Oper} {o : Oper} {E E' : O8} {α : Type} {ok : α → Prop} {W' : α → List Own} {V : α → AV} (h : OpE P G n W ops o E ok W' V) (he : ∀ t ∈ o.looksAt ops, E' t = E t) : OpE P G n W ops o E' ok W' V :=
  fun w0 R0 R a w h1 h2 h3 => h w0 R0 R a w h1 h2 fun t ht y hy => h3 t ht y (by rw [he t ht]; exact hy)
def Aj2 (base W : List Own) : Prop := ∃ ext, W = base ++ ext
theorem Ae8 {own : List Own} : Aj2 own own := ⟨[], (S0 _).symm⟩
theorem CA5 {own : List Own} : Aj2 [] own := ⟨own, rfl⟩
theorem S1 {own : List Own} (k : Nat) : Aj2 (own.take k) own := ⟨own.drop k, (Ao8 k own).symm⟩
theorem DE0 {base W ext : List Own} (h : W = base ++ ext) : Aj2 base W := ⟨ext, h⟩
theorem DE1 {R : H2} {w : World} {v : Value} {e : TypeId} {sz : Nat} {es : List (List AV)} (h : Own.ok R w (.arr v e sz es)) : v.oneCell' = true := by
  obtain ⟨_, _, xs, hown, _⟩ := h;obtain ⟨oa, c, rfl, _⟩ := BM9 hown;rfl
theorem O4 {own : List Own} {ops : Array Oper} {o : Oper} {rs : List Oper} {K : H6 → Prop} {env : List (Nat × AV)} {v : Value} {e : TypeId} {sz : Nat} {es : List (List AV)} (i : Nat) (hi : own[i]? = some (.arr v e sz es)) (k : v.oneCell' = true → Q5 P G n ops (o :: rs) ⟨own, env⟩ K) : Q5 P G n ops (o :: rs) ⟨own, env⟩ K := fun w0 R0 R a w hs =>
  k (DE1 (hs.1.owned _ (C2 hi))) w0 R0 R a w hs
theorem G6 {own own' : List Own} {c : Code} {Q : Exit → H6 → Prop} {env : List (Nat × AV)} (h : own = own') (k : AWP P G n c Q ⟨own', env⟩) : AWP P G n c Q ⟨own, env⟩ := by subst h; exact k
theorem BX5 {own : List Own} {o : Oper} {E : O8} {t : TypeId} {p : Operand} {b off : Nat} {fs : Array Field} {fd : Field} {k j : Nat} (m : Nat) (ho : o.op = .fieldAddr t p k) (ht : P.underlying t = some (.struct fs)) (hk : fs[k]? = some fd) (hs : ∀ w, (sizeOf fd.type).run P w = .ok (j + 1) w)
    (hp : Ev E p (AV.ptr b off)) (hm : off + fd.offset = m) : OpW P G n own o E (AV.ptr b m) := by subst hm; exact w_fldB ho ht hk hs hp
def qB (P : Program) (G : Nat → Prop) (n : Nat) (Inv : List Own → Prop) (ops : Array Oper) (i : Nat) (K : O8 → List Own → Prop) (E : O8) (W : List Own) : Prop :=
  match ops[i]? with
  | none => K E W
  | some o => (∃ x, OpA P G n W ops o E x ∧ K (AI0 o.dst x E) W) ∨
      (o.guard = none ∧ ∃ (α : Type) (ok : α → Prop) (W' : α → List Own) (V : α → AV), OpE P G n W ops o E ok W' V ∧ (∀ a, ok a → Inv (W' a)) ∧ ∀ a, ok a → K (AI0 o.dst (V a) E) (W' a))
theorem qB_mono {Inv : List Own → Prop} {ops : Array Oper} {i : Nat} {E : O8} {W : List Own} {K K' : O8 → List Own → Prop} (hW : Inv W) (h : ∀ E W, Inv W → K E W → K' E W) (hh : qB P G n Inv ops i K E W) : qB P G n Inv ops i K' E W := by
  unfold qB at *;split
  · exact h _ _ hW (by simpa [*] using hh)
  · rename_i o ho
    simp only [ho] at hh;rcases hh with ⟨x, h1, h2⟩ | ⟨hg, α, ok, W', V, h1, h2, h3⟩
    · exact .inl ⟨x, h1, h _ _ hW h2⟩
    · exact .inr ⟨hg, α, ok, W', V, h1, h2, fun a ha => h _ _ (h2 a ha) (h3 a ha)⟩
def BP3 (P : Program) (G : Nat → Prop) (n : Nat) (Inv : List Own → Prop) (md : Region.Mode) (ops : Array Oper) (m : Nat) (L : Array Bool → O8 → List Own → Prop) : Nat → Array Bool → O8 → List Own → Prop
  | 0, listed, E, W => L listed E W
  | f + 1, listed, E, W => Region.ready md ops listed ≠ [] ∧ ∀ i ∈ Region.ready md ops listed, i < m ∧ qB P G n Inv ops i (BP3 P G n Inv md ops m L f (listed.setIfInBounds i true)) E W
theorem Af8 {Inv : List Own → Prop} {md : Region.Mode} {ops : Array Oper} {m g : Nat} {L : Array Bool → O8 → List Own → Prop} (hdst : ∀ (i : Nat) (o : Oper), ops[i]? = some o → ∀ d, o.dst = some d → d < n) {w0 : World} {R0 R00 : H2} {Q' : Exit → Act → World → Prop}
    (hL : ∀ listed E W R a w, L6 R00 R → U0 G w0 R0 W R w → AW8 E R a → a.tmps.size = n → a.defers = [] → L listed E W → wpAny P md ops Q' g listed a w) : ∀ (f : Nat) (listed : Array Bool) (E : O8) (W : List Own) (R : H2) (a : Act) (w : World),
    L6 R00 R → U0 G w0 R0 W R w → AW8 E R a → a.tmps.size = n → a.defers = [] → BP3 P G n Inv md ops m L f listed E W → wpAny P md ops Q' (f + g) listed a w
  | 0, listed, E, W, R, a, w, h1, h2, h3, h4, h5, h => by rw [Nat.zero_add]; exact hL _ _ _ R a w h1 h2 h3 h4 h5 h
  | f + 1, listed, E, W, R, a, w, h1, h2, h3, h4, h5, h => by
    rw [show f + 1 + g = (f + g) + 1 by omega];refine ⟨fun h0 => absurd h0 h.1, fun i hi => ?_⟩;have hq := (h.2 i hi).2;unfold qB at hq;unfold wpOp
    cases ho : ops[i]? with
    | none =>
      simp only [ho] at hq;exact Af8 hdst hL f _ E W R a w h1 h2 h3 h4 h5 hq
    | some o =>
      simp only [ho] at hq;have hdo : ∀ k, o.dst = some k → k < a.tmps.size := fun k e => by rw [h4]; exact hdst i o ho k e
      rcases hq with ⟨x, hx, hk⟩ | ⟨hg, α, ok, W', V, hx, _, hk⟩
      · obtain ⟨k1, k2⟩ := hx w0 R0 R a w h2 h4 fun t _ y hy => h3 t y hy
        by_cases hw : Region.wanted o (yielded ops a.tmps) = true
        · simp only [hw, if_true]
          refine .inl (Oper.wp_mono2 (fun a' w' ⟨v, R', e1, e2, e3, e4⟩ => ?_) (fun _ _ _ h => h.elim) (k1 hw));subst e1;exact Af8 hdst hL f _ (AI0 o.dst x E) W R' _ w' (h1.trans e3) e2 (AQ3 h3 e3 hdo e4) Bb2 Bb3 hk
        · have hwf : Region.wanted o (yielded ops a.tmps) = false := by simpa using hw
          simp only [hwf, Bool.false_eq_true, if_false];exact Af8 hdst hL f _ (AI0 o.dst x E) W R _ w h1 h2 (AQ3 h3 (L6.refl _) hdo (k2 hwf)) Bb2 Bb3 hk
      · have hw : Region.wanted o (yielded ops a.tmps) = true := Bw0 hg
        simp only [hw, if_true];refine .inl (Oper.wp_mono2 (fun a' w' ⟨x, v, R', e0, e1, e2, e3, e4⟩ => ?_) (fun _ _ _ h => h.elim) (hx w0 R0 R a w h2 h4 fun t _ y hy => h3 t y hy));subst e1;exact Af8 hdst hL f _ (AI0 o.dst (V x) E) (W' x) R' _ w' (h1.trans e3) e2 (AQ3 h3 e3 hdo e4) Bb2 Bb3 (hk x e0)
theorem qB_put {Inv : List Own → Prop} {ops : Array Oper} {j : Nat} {oi oj : Oper} {x : AV} {W : List Own} (hj : ops[j]? = some oj) (hap : oi.apart ops oj = true) {K : O8 → List Own → Prop} {E : O8} (hW : Inv W)
    (hy : ∀ W, Inv W → OpA P G n W ops oi E x) (h : qB P G n Inv ops j K (AI0 oi.dst x E) W) :
    qB P G n Inv ops j (fun E' W' => (∀ W, Inv W → OpA P G n W ops oi E' x) ∧ K (AI0 oi.dst x E') W') E W := by
  obtain ⟨h1, h2, h3⟩ := Oper.apart_spec hap;unfold qB at *;simp only [hj] at *;rcases h with ⟨y, hu, hn⟩ | ⟨hg, α, ok, W', V, hu, hi, hn⟩
  · exact .inl ⟨y, hu.unupd h1, fun W hW => (hy W hW).upd h3, by rw [Bk5 h2]; exact hn⟩
  · exact .inr ⟨hg, α, ok, W', V, hu.congr fun t ht => (AT2 fun e => h1 t e ht).symm, hi, fun a ha => ⟨fun W hW => (hy W hW).upd h3, by rw [Bk5 h2]; exact hn a ha⟩⟩
theorem BN0 {Inv : List Own → Prop} {md : Region.Mode} {ops : Array Oper} {m i : Nat} {oi : Oper} {x : AV} {L : Array Bool → O8 → List Own → Prop} (hi : ops[i]? = some oi)
    (hs : Region.sinkB md ops m = true) (hc : Region.chainB md ops m = true) (hn : m < ops.size) (hin : i < m)
    (hdone : ∀ listed E W, L listed E W → ∀ j ∈ Region.ready md ops listed, m ≤ j) :
    ∀ (f : Nat) (listed : Array Bool) (E : O8) (W : List Own), HeadInv md ops m listed → Inv W →
      (∀ j oj, ops[j]? = some oj → j ≠ i → listed.getD j true = false → (∀ e ∈ oj.after, Region.binds md e = true → e.on ≠ i) → oi.apart ops oj = true) →
      i ∈ Region.ready md ops listed → (∀ W, Inv W → OpA P G n W ops oi E x) →
      BP3 P G n Inv md ops m L f (listed.setIfInBounds i true) (AI0 oi.dst x E) W → BP3 P G n Inv md ops m L (f + 1) listed E W := by
  have put : ∀ {K : O8 → List Own → Prop} {E : O8} {W : List Own}, Inv W → (∀ W, Inv W → OpA P G n W ops oi E x) → K (AI0 oi.dst x E) W → qB P G n Inv ops i K E W := fun hW hy hK => by
    unfold qB;simp only [hi];exact .inl ⟨x, hy _ hW, hK⟩
  intro f;induction f with
  | zero =>
    intro listed E W inv hW _ hr hy H;have hun := (mem_ready.1 hr).1;refine ⟨fun h => Bs0, fun j hj => ?_⟩;have hjn : j < m := by
      rcases Nat.lt_or_ge j m with h | h
      · exact h
      · exact absurd hj (tail_waits hs hc hn inv _ i rfl hin hun j h)
    refine ⟨hjn, ?_⟩;by_cases hji : j = i
    · subst hji; exact put hW hy H
    · have := hdone _ _ _ H j (ready_mono hj hji)
      omega
  | succ f ih =>
    intro listed E W inv hW hfree hr hy H;have hun := (mem_ready.1 hr).1;refine ⟨fun h => Bs0, fun j hj => ?_⟩;have hjn : j < m := by
      rcases Nat.lt_or_ge j m with h | h
      · exact h
      · exact absurd hj (tail_waits hs hc hn inv _ i rfl hin hun j h)
    refine ⟨hjn, ?_⟩;by_cases hji : j = i
    · subst hji; exact put hW hy H
    · have h1 := (H.2 j (ready_mono hj hji)).2
      obtain ⟨hjun, oj, hoj, hall⟩ := mem_ready.1 hj;have hnot : ∀ e ∈ oj.after, Region.binds md e = true → e.on ≠ i := fun e he hb heq => by
        have h1 := hall e he hb;rw [heq, getD_both hun] at h1
        cases h1
      have h2 := qB_put hoj (hfree j oj hoj hji hjun hnot) hW hy h1
      have hfree' : ∀ k ok, ops[k]? = some ok → k ≠ i → (listed.setIfInBounds j true).getD k true = false →
          (∀ e ∈ ok.after, Region.binds md e = true → e.on ≠ i) → oi.apart ops ok = true := fun k ok hk hki hun hno => by
        refine hfree k ok hk hki ?_ hno;by_cases hjk : j = k
        · subst hjk; exact hjun
        · rw [getD_set_ne true hjk] at hun; exact hun
      refine qB_mono hW (fun E' W' hW' h3 => ih (listed.setIfInBounds j true) E' W' (inv.set hj hjn) hW' hfree' (ready_mono hr (Ne.symm hji)) h3.1 ?_) h2;rw [Array.setIfInBounds_comm _ _ hji];exact h3.2
def CW0 (md : Region.Mode) (ops : Array Oper) (g m : Nat) : List (Nat × Bool) → Array Bool → Bool
  | [], listed => Region.seqB md ops g m listed
  | (i, false) :: r, listed => (Region.ready md ops listed).contains i && Region.free md ops listed i && Nat.blt i m && CW0 md ops g m r (listed.setIfInBounds i true)
  | (i, true) :: r, listed => decide (Region.ready md ops listed = [i]) && Nat.blt i m && CW0 md ops g m r (listed.setIfInBounds i true)
def mixB (md : Region.Mode) (ops : Array Oper) (ord : List (Nat × Bool)) : Bool :=
  decide (ord.length < ops.size) && Region.sinkB md ops ord.length && Region.chainB md ops ord.length && CW0 md ops (ops.size - ord.length) ord.length ord (Array.replicate ops.size false)
def BCh (P : Program) (G : Nat → Prop) (n : Nat) (Inv : List Own → Prop) (ops : Array Oper) : List (Nat × Bool) → List (Nat × AV) → List Own → (List (Nat × AV) → List Own → Prop) → Prop
  | [], env, W, K => K env W
  | (i, false) :: r, env, W, K => ∃ o, ops[i]? = some o ∧ ∃ x, (∀ W', Inv W' → OpA P G n W' ops o (M8 · env) x) ∧ BCh P G n Inv ops r (BW8 o.dst x env) W K
  | (i, true) :: r, env, W, K => ∃ o, ops[i]? = some o ∧ o.guard = none ∧ ∃ (α : Type) (ok : α → Prop) (W' : α → List Own) (V : α → AV), OpE P G n W ops o (M8 · env) ok W' V ∧ (∀ a, ok a → Inv (W' a)) ∧ ∀ a, ok a → BCh P G n Inv ops r (BW8 o.dst (V a) env) (W' a) K
theorem Bd3 {Inv : List Own → Prop} {md : Region.Mode} {ops : Array Oper} {m g : Nat} {K : List (Nat × AV) → List Own → Prop} (hs : Region.sinkB md ops m = true) (hc : Region.chainB md ops m = true) (hn : m < ops.size) :
    ∀ (l : List (Nat × Bool)) (listed : Array Bool) (env : List (Nat × AV)) (W : List Own), HeadInv md ops m listed → Inv W →
    CW0 md ops g m l listed = true → BCh P G n Inv ops l env W K →
    BP3 P G n Inv md ops m (fun listed' E W => Region.seqB md ops g m listed' = true ∧ ∃ env', E = (M8 · env') ∧ K env' W) l.length listed (M8 · env) W
  | [], listed, env, W, _, _, hB, h => ⟨hB, env, rfl, h⟩
  | (i, false) :: l, listed, env, W, inv, hW, hB, h => by
    simp only [CW0, D8] at hB;obtain ⟨⟨⟨hr, hf⟩, hlt⟩, hB'⟩ := hB;have hkn : i < m := Nat.blt_eq.mp hlt;have hr' : i ∈ Region.ready md ops listed := by simpa using hr
    obtain ⟨o, ho, x, hx, hK⟩ := h;refine BN0 ho hs hc hn hkn (fun listed' E W hL => seqB_ready hL.1) l.length listed _ W inv hW (Region.free_spec ho hf) hr' hx ?_;rw [← AB4];exact Bd3 hs hc hn l _ _ W (inv.set hr' hkn) hW hB' hK
  | (i, true) :: l, listed, env, W, inv, hW, hB, h => by
    simp only [CW0, D8, H5] at hB;obtain ⟨⟨hr, hlt⟩, hB'⟩ := hB;have hkn : i < m := Nat.blt_eq.mp hlt;have hr' : i ∈ Region.ready md ops listed := by rw [hr]; simp
    obtain ⟨o, ho, hg, α, ok, W', V, h1, h2, h3⟩ := h;refine ⟨fun h0 => Bs1, fun j hj => ?_⟩;rw [hr] at hj;have : j = i := by simpa using hj
    subst this;refine ⟨hkn, ?_⟩;unfold qB;simp only [ho];refine .inr ⟨hg, α, ok, W', V, h1, h2, fun a ha => ?_⟩;rw [← AB4];exact Bd3 hs hc hn l _ _ (W' a) (inv.set hr' hkn) (h2 a ha) hB' (h3 a ha)
theorem O5 {id : Nat} {l : List Oper} {Q : Exit → H6 → Prop} {env : List (Nat × AV)} {own : List Own} (base : List Own) (ord : List (Nat × Bool)) (hm : P.follows .mixedOrders = true) (hB : mixB .any l.toArray ord = true) (hd : Bu1 n l = true) (hb : Aj2 base own)
  (h : BCh P G n (Aj2 base) l.toArray ord env own (fun env' W => Q5 P G n l.toArray (l.drop ord.length) ⟨W, env'⟩ (Q .normal))) : AWP P G n (.region id l.toArray true) Q ⟨own, env⟩ := fun w0 R0 R a w ⟨h1, h2, h3, h4⟩ => by
 simp only [mixB, D8, H5] at hB;obtain ⟨⟨⟨hn, hs⟩, hc⟩, hlex⟩ := hB;have hn' : ord.length < l.length := by simpa using hn
 have hdl : (l.drop ord.length).length = l.toArray.size - ord.length := by simp
 have inv0 : HeadInv .any l.toArray ord.length (Array.replicate l.toArray.size false) :=
  ⟨by simp, fun j oj _ hl => Ci9, fun t _ ht => getD_in (by simpa using ht) (getD_replicate_false _ _)⟩
 have H := Bd3 (g := l.toArray.size - ord.length) hs hc hn ord _ env own inv0 hb hlex h;refine wp_region_any hm ?_;have := Af8 (w0 := w0) (R0 := R0) (R00 := R) (g := l.toArray.size - ord.length) (Q' := fun e a' w' => ∃ s' R', Q e s' ∧ L6 R R' ∧ St G n w0 R0 s' R' a' w') (fun i o ho d e => Aw5 hd i o (by simpa using ho) d e) (fun listed E W R' a' w' g1 g2 g3 g4 g5 hL => by
  obtain ⟨hL1, env', rfl, hL2⟩ := hL
  have := wpAny_of_seq (P := P) (md := .any) (Q' := fun e a' w' => ∃ s' R', Q e s' ∧ L6 R R' ∧ St G n w0 R0 s' R' a' w') (l.drop ord.length) ord.length listed a' w' (fun j => by simp [AW5]) (by rw [hdl]; exact hL1)
   (AS0 (R00 := R) (K := Q .normal) (fun s' R' a w q r1 r2 => ⟨s', R', q, r1, r2⟩) _ (⟨W, env'⟩ : H6) R' a' w' g1 ⟨g2, g3, g4, g5⟩ hL2)
  rwa [hdl] at this) _ _ _ own R a _ (L6.refl _) (Au4 h1) h2 h3 h4 H
 rw [show ord.length + (l.toArray.size - ord.length) = l.toArray.size by omega] at this;exact this
section
variable {ops : Array Oper} {i : Nat} {o : Oper} {r : List (Nat × Bool)} {env : List (Nat × AV)} {W : List Own} {base : List Own} {K : List (Nat × AV) → List Own → Prop} {d : Nat} {x : AV}
theorem bc_nil {Inv : List Own → Prop} (h : K env W) : BCh P G n Inv ops [] env W K := h
theorem P7 (ho : ops[i]? = some o) (hg : o.guard = none) (hd : o.dst = some d) (h : ∀ ext, OpW P G n (base ++ ext) o (M8 · env) x) (k : BCh P G n (Aj2 base) ops r ((d, x) :: env) W K) : BCh P G n (Aj2 base) ops ((i, false) :: r) env W K :=
  ⟨o, ho, x, fun W' ⟨ext, e⟩ => by subst e; exact BF1 hg (h ext), by rw [hd]; exact k⟩
theorem S8 {Inv : List Own → Prop} {α : Type} {ok : α → Prop} {W' : α → List Own} {V : α → AV} (ho : ops[i]? = some o) (hg : o.guard = none) (hd : o.dst = some d) (h : OpE P G n W ops o (M8 · env) ok W' V) (hi : ∀ a, ok a → Inv (W' a)) (k : ∀ a, ok a → BCh P G n Inv ops r ((d, V a) :: env) (W' a) K) : BCh P G n Inv ops ((i, true) :: r) env W K :=
  ⟨o, ho, hg, α, ok, W', V, h, hi, fun a ha => by rw [hd]; exact k a ha⟩
section
variable {α : Type} {ok : α → Prop} {O : α → List Own} {V : α → AV} {E : O8} {f : FuncId} {args : Array Operand} {tys : Array TypeId} {ps : List Operand} {xs : List AV} {sel rest : List Own}
theorem BN1 {p : Operand} {R : H2} {a : Act} (hev : Ev E p x) (hm : p ∈ o.op.operands.toList) (he : ∀ t ∈ o.looksAt ops, ∀ y, E t = some y → y.den R (a.tmps.getD t undef)) : x.den R (a.eval p) :=
  H1 hev hm fun t ht => he t (An6 ht)
theorem P3 (is : List Nat) (ho : o.op = .call { callee := .value (.func f), args := args, argTypes := tys })
    (hc : ∀ (vs : Array Value) (w : World), (callFunc f vs).run P w = .ok (.enter f vs) w) (hps : args.toList = ps) (hs : K8 P f xs sel ok O V) (he : EvL E ps xs) (hp : pick W is = (sel, rest)) :
    OpE P G n W ops o E ok (fun a => rest ++ O a) V := fun w0 R0 R a w h1 h3 h2 => by
  have hcore := Ae7 h1 hp;have hden := An7 (o := o) (fun t ht => h2 t (An6 ht)) he fun p hp => by simp [ho, Op.operands, Call.operands]; right; rw [← hps] at hp; exact Array.mem_toList_iff.1 hp
  have hrun : (execOp a.eval o).run P w = .ok (.enter f (ps.map a.eval).toArray) w := by
    have hargs : args.map a.eval = (ps.map a.eval).toArray := by rw [← hps]; cases args; simp
    simp only [execOp, ho, resolve, hargs, show a.eval (.func f) = .func (.func f) #[] #[] from rfl];simp [Deferred.ofValue, invoke, hc]
  unfold Oper.wp;rw [hrun, Oper.upon_enter];refine (hs R w _ hcore.rle hden (fun q hq => hcore.owned q (AL1 _ hq)) (AA0 hcore).sep).mono fun e w' ⟨x, v, R', e0, e1, e2, e3⟩ => ?_;subst e1;exact ⟨x, v, R', e0, rfl, AD7 (Aw7 hcore e3) AO2, AX2 hcore.rle e3.rold, e2⟩
end
end
end
section
variable {P : Program} {G : Nat → Prop} {n : Nat} {own : List Own} {o : Oper} {E : O8}
end
section
variable {P : Program} {G : Nat → Prop} {n : Nat} {own : List Own} {o : Oper} {E : O8}
theorem At5 {c : Code} {Q : Exit → H6 → Prop} {env : List (Nat × AV)} {v : Value} {e : TypeId} {sz : Nat} {es : List (List AV)} (i : Nat) (hi : own[i]? = some (.arr v e sz es)) (k1 : v = .slice none 0 0 → es = [] → AWP P G n c Q ⟨own, env⟩)
  (k2 : ∀ g cap, v = .slice (some ⟨g, 0, none⟩) es.length cap → es.length ≤ cap → cap ≤ 9223372036854775807 → AWP P G n c Q ⟨own, env⟩) : AWP P G n c Q ⟨own, env⟩ := fun w0 R0 R a w hs => by
 obtain ⟨_, _, xs, hown, _⟩ := hs.1.owned _ (C2 hi);rcases hown.2 with ⟨h1, h2⟩ | ⟨g, cap, cur, h1, _, _, hn, hm, _⟩
 ·exact k1 h1 (Ar9 h2) w0 R0 R a w hs
 exact k2 g cap h1 hn (by unfold maxLen at hm; omega) w0 R0 R a w hs
abbrev slv (g len cap : Nat) : Value := .slice (some ⟨g, 0, none⟩) len cap
section vals
variable {t e : TypeId} {p q q' q'' : Operand} {g len cap sz : Nat}
theorem Aw8 {oa : Option Addr} (ho : o.op = .call { callee := .builtin .len, args := #[p], argTypes := #[t] }) (ht : P.underlying t = some (.slice e)) (hp : Ev E p (AV.is (.slice oa len cap))) : OpW P G n own o E (AV.int len) := P1 fun R a w _ he => by
  have h1 : a.eval p = _ := H1 hp Ap5 he;have hel : P.elem t = e := by simp [Program.elem, ht]
  have h2 := run_len_slice (P := P) w t o.type oa len cap AQ2;exact ⟨.int .i64 len, by simp only [execOp, ho, resolve, invoke, builtin, AP8, j4, List.map_nil, h1, h2, Sem.run_bind, Sem.run_pure, Result.andThen_ok, goInt], rfl⟩
theorem w_vcap {oa : Option Addr} (ho : o.op = .call { callee := .builtin .cap, args := #[p], argTypes := #[t] }) (ht : P.underlying t = some (.slice e)) (hp : Ev E p (AV.is (.slice oa len cap))) : OpW P G n own o E (AV.int cap) := P1 fun R a w _ he => by
  have h1 : a.eval p = _ := H1 hp Ap5 he;have hel : P.elem t = e := by simp [Program.elem, ht]
  have h2 := run_cap_slice (P := P) w t o.type oa len cap AQ2;exact ⟨.int .i64 cap, by simp only [execOp, ho, resolve, invoke, builtin, AP8, j4, List.map_nil, h1, h2, Sem.run_bind, Sem.run_pure, Result.andThen_ok, goInt], rfl⟩
theorem Bw3 (g hi cap sz : Nat) : sliced (some ⟨g, 0, none⟩) 0 hi cap sz = slv g hi cap := by
  unfold sliced;by_cases hc : cap = 0
  · simp [hc]
  · simp [hc, Addr.add]
theorem CG1 {hi : Int} (ho : o.op = .slice t p none (some q) none) (ht : P.underlying t = some (.slice e)) (hsz : ∀ w, (sizeOf e).run P w = .ok sz w) (hp : Ev E p (AV.is (slv g len cap))) (hq : Ev E q (AV.int hi)) (h0 : 0 ≤ hi) (h1 : hi ≤ cap) : OpW P G n own o E (AV.is (slv g hi.toNat cap)) := P1 fun R a w _ he => by
  have e1 : a.eval p = _ := H1 hp O7 he;have e2 : a.eval q = .int .i64 hi := H1 hq O7 he;have hel : P.elem t = e := by simp [Program.elem, ht]
  have hr1 := run_slice_h (P := P) (w := w) (t := t) (a := some ⟨g, 0, none⟩) (len := len) (cap := cap) AQ2 .i64 hi h0 h1;rw [hel, hsz, Result.andThen_ok, Bw3] at hr1;exact ⟨_, by simp only [execOp, ho, e1, e2, AH2, Option.map_none, run_sliceAt_slice w t _ _ _ _ AQ2, hr1, Sem.run_bind, Sem.run_pure, Result.andThen_ok], rfl⟩
theorem AY8 {lo : Int} (ho : o.op = .slice t p (some q) none none) (ht : P.underlying t = some (.slice e)) (hsz : ∀ w, (sizeOf e).run P w = .ok sz w) (hp : Ev E p (AV.is (slv g len cap))) (hq : Ev E q (AV.int lo)) (h0 : 0 ≤ lo) (h1 : lo ≤ len) : OpW P G n own o E (AV.is (sliced (some ⟨g, 0, none⟩) lo.toNat len cap sz)) := P1 fun R a w _ he => by
  have e1 : a.eval p = _ := H1 hp O7 he;have e2 : a.eval q = .int .i64 lo := H1 hq O7 he;have hel : P.elem t = e := by simp [Program.elem, ht]
  have hr1 := run_slice_l (P := P) (w := w) (t := t) (a := some ⟨g, 0, none⟩) (len := len) (cap := cap) AQ2 .i64 lo h0 h1;rw [hel, hsz, Result.andThen_ok] at hr1;exact ⟨_, by simp only [execOp, ho, e1, e2, AH2, Option.map_none, run_sliceAt_slice w t _ _ _ _ AQ2, hr1, Sem.run_bind, Sem.run_pure, Result.andThen_ok], rfl⟩
theorem w_vlohi {lo hi : Int} (ho : o.op = .slice t p (some q) (some q') none) (ht : P.underlying t = some (.slice e)) (hsz : ∀ w, (sizeOf e).run P w = .ok sz w) (hp : Ev E p (AV.is (slv g len cap))) (hq : Ev E q (AV.int lo)) (hq' : Ev E q' (AV.int hi)) (h0 : 0 ≤ lo) (h1 : lo ≤ hi) (h2 : hi ≤ cap) : OpW P G n own o E (AV.is (sliced (some ⟨g, 0, none⟩) lo.toNat hi.toNat cap sz)) := P1 fun R a w _ he => by
  have e1 : a.eval p = _ := H1 hp O7 he;have e2 : a.eval q = .int .i64 lo := H1 hq O7 he;have e3 : a.eval q' = .int .i64 hi := H1 hq' O7 he;have hel : P.elem t = e := by simp [Program.elem, ht]
  have hr1 := run_slice_lh (P := P) (w := w) (t := t) (a := some ⟨g, 0, none⟩) (len := len) (cap := cap) AQ2 .i64 .i64 lo hi h0 h1 h2;rw [hel, hsz, Result.andThen_ok] at hr1;exact ⟨_, by simp only [execOp, ho, e1, e2, e3, AH2, Option.map_none, run_sliceAt_slice w t _ _ _ _ AQ2, hr1, Sem.run_bind, Sem.run_pure, Result.andThen_ok], rfl⟩
theorem w_v3 {oa : Option Addr} {lo hi mx : Int} (ho : o.op = .slice t p (some q) (some q') (some q'')) (ht : P.underlying t = some (.slice e)) (hsz : ∀ w, (sizeOf e).run P w = .ok sz w) (hp : Ev E p (AV.is (.slice oa len cap))) (hq : Ev E q (AV.int lo)) (hq' : Ev E q' (AV.int hi)) (hq'' : Ev E q'' (AV.int mx)) (h0 : 0 ≤ lo) (h1 : lo ≤ hi) (h2 : hi ≤ mx) (h3 : mx ≤ cap) : OpW P G n own o E AV.any := P1 fun R a w _ he => by
  have e1 : a.eval p = _ := H1 hp O7 he;have e2 : a.eval q = .int .i64 lo := H1 hq O7 he;have e3 : a.eval q' = .int .i64 hi := H1 hq' O7 he;have e4 : a.eval q'' = .int .i64 mx := H1 hq'' O7 he;have hel : P.elem t = e := by simp [Program.elem, ht]
  have hb : (Instr.sliceBounds true len cap (some (.int .i64 lo)) (some (.int .i64 hi)) (some (.int .i64 mx))).run P w = .ok (lo.toNat, hi.toNat, mx.toNat) w := by
    have g1 : (hi.toNat : Int) = hi := Int.toNat_of_nonneg qz8;have g2 : (mx.toNat : Int) = mx := Int.toNat_of_nonneg qz8;simp [Instr.sliceBounds, run_sliceBound, *, (by omega : 0 ≤ hi), (by omega : 0 ≤ mx)]
  have hr1 := run_slice_any (P := P) (w := w) (t := t) (a := oa) (len := len) (cap := cap) AQ2 (some (.int .i64 lo)) (some (.int .i64 hi)) (some (.int .i64 mx));rw [hb, Result.andThen_ok, hel, hsz, Result.andThen_ok] at hr1;dsimp only at hr1;exact ⟨sliced oa lo.toNat hi.toNat mx.toNat sz, by simp only [execOp, ho, e1, e2, e3, e4, AH2, Option.map_none, run_sliceAt_slice w t _ _ _ _ AQ2, hr1, Sem.run_bind, Sem.run_pure, Result.andThen_ok], trivial⟩
end vals
theorem Bi2 (w : World) (dT sT ty elem : TypeId) {inf : TypeInfo} (g o dLen dCap : Nat) (a : Addr) (sLen sCap : Nat) (cur : Array Value) (t : TypeId) (cs : List Value)
    (hu : P.underlying dT = some (.slice elem)) (hi : P.info? elem = some inf)
    (hg : w.heap[g]? = some (.cells cur t (0, 0))) (hn : cs.length = Nat.min sLen dLen * inf.size)
    (hsrc : ∀ j v, cs[j]? = some v → w.cell? (a.add j) = some v) (hfit : o + cs.length ≤ cur.size) (h1 : ∀ v ∈ cs, v.oneCell' = true) :
    (Builtin.copy_ #[dT, sT] ty #[.slice (some ⟨g, o, none⟩) dLen dCap, .slice (some a) sLen sCap]).run P w =
      .ok (goInt (Nat.min sLen dLen)) (w.setRow g (cur.toList.take o ++ cs ++ cur.toList.drop (o + cs.length)).toArray) := by
  have hl := run_loadCells_list (P := P) w a cs hsrc;have hst := run_storeCells_at P g o t cs 0 cur w hg (by simpa using hfit) h1;simp [Builtin.copy_, run_underlying hu, Builtin.lenOf, Builtin.firstCells, sizeOf, typeInfo, hi, ← hn, hl, hst]
def M7 (own : List Own) (E : O8) (q : Operand) (sz : Nat) (fs : List (List AV)) : Prop :=
  ∀ (G : Nat → Prop) (w0 : World) (R0 R : H2) (a : Act) (w : World), U0 G w0 R0 own R w → (∀ t, q = .tmp t → ∀ y, E t = some y → y.den R (a.tmps.getD t undef)) →
    (∀ f ∈ fs, f.length = sz) ∧ (fs ≠ [] → ∃ ad cap vs, a.eval q = .slice (some ad) fs.length cap ∧ (∀ j u, vs[j]? = some u → w.cell? (ad.add j) = some u) ∧ n7 R vs fs.flatten)
theorem Al1 {R : H2} {w : World} {g len cap : Nat} {e : TypeId} {sz : Nat} {es : List (List AV)} (h : Own.ok R w (.arr (slv g len cap) e sz es)) : len = es.length ∧ len ≤ cap ∧ cap ≤ maxLen ∧ (∀ x ∈ es, x.length = sz) ∧ ∃ (cur : Array Value) (xs : List Value), w.heap[g]? = some (.cells cur e (0, 0)) ∧ cur.size = cap * sz ∧ cur.toList.take (len * sz) = xs ∧ xs.length = len * sz ∧ n7 R xs es.flatten := by
  obtain ⟨_, hu, xs, hown, hd⟩ := h;rcases hown.2 with ⟨h1, _⟩ | ⟨g', cap', cur, h1, _, hg, hn, hm, hcs, htake⟩
  · cases h1
  · injection h1 with e1 e2 e3
    injection e1 with e1
    injection e1 with e1
    subst e1; subst e2; subst e3;exact ⟨rfl, hn, hm, hu, cur, xs, hg, hcs, htake, hown.1, hd⟩
theorem CR2 {q : Operand} {g len cap k : Nat} {e : TypeId} {sz : Nat} {es : List (List AV)} (i : Nat) (hi : own[i]? = some (.arr (slv g len cap) e sz es)) (hq : Ev E q (AV.is (sliced (some ⟨g, 0, none⟩) k len cap sz))) : M7 own E q sz (es.drop k) := fun G w0 R0 R a w hc he => by
  have e1 : a.eval q = _ := hq R a he;obtain ⟨hl, hlc, _, hu, cur, xs, hg, hcs, htake, hxl, hd⟩ := Al1 (hc.owned _ (C2 hi));refine ⟨fun f hf => hu f (List.mem_of_mem_drop hf), fun hne => ?_⟩;have hk : k < es.length := by
    rcases Nat.lt_or_ge k es.length with h | h
    · exact h
    · exact absurd (n5 h) hne
  refine ⟨⟨g, k * sz, none⟩, cap - k, xs.drop (k * sz), ?_, fun j u hu' => ?_, ?_⟩
  · rw [e1]; unfold sliced
    rw [C5 qz8, AH2, addr_add, Nat.zero_add, AD4, hl]
  · rw [AW5] at hu'
    have hjl : k * sz + j < len * sz := by rw [← hxl]; exact (G2.1 hu').1
    rw [addr_add];rw [← htake, AH0 hjl, Array.getElem?_toList] at hu';simp [World.cell?, hg, hu']
  · rw [AV1 k hu]
    exact ⟨by simp [hd.1], fun j v x hv hx => hd.2 _ v x (by rw [AW5] at hv; exact hv) (by rw [AW5] at hx; exact hx)⟩
theorem Af9 {q : Operand} {g len cap : Nat} {e : TypeId} {sz : Nat} {es : List (List AV)} (i : Nat) (hi : own[i]? = some (.arr (slv g len cap) e sz es)) (hq : Ev E q (AV.is (slv g len cap))) : M7 own E q sz es := by
  have := CR2 (k := 0) i hi (by rw [Bw3]; exact hq)
  rwa [List.drop_zero] at this
theorem BU5 {g k m cap sz : Nat} (h : k < m) (hc : m ≤ cap) : sliced (some ⟨g, 0, none⟩) k m cap sz = .slice (some ⟨g, k * sz, none⟩) (m - k) (cap - k) := by
  unfold sliced;rw [C5 qz8, AH2, addr_add, Nat.zero_add]
theorem Cl9 {sz k : Nat} {es fs : List (List AV)} (hu : ∀ e ∈ es, e.length = sz) (hf : ∀ f ∈ fs, f.length = sz) : (es.take k ++ fs ++ es.drop (k + fs.length)).flatten = AO6 es.flatten (k * sz) fs.flatten := by
  rw [Ah3, Ah3, AL7 k hu, AV1 (k + fs.length) hu];unfold AO6;rw [AG6 hf, Nat.add_mul]
theorem BL8 {ops : Array Oper} {rest : List Oper} {env : List (Nat × AV)} {K : H6 → Prop} {t e : TypeId} {p q : Operand} {d sz g len cap k m : Nat} {inf : TypeInfo} {es fs : List (List AV)} (i : Nat) (hg : o.guard = none) (ho : o.op = .call { callee := .builtin .copy, args := #[p, q], argTypes := #[t, t] }) (hd : o.dst = some d) (hn : Nat.blt d n = true)
    (ht : P.underlying t = some (.slice e)) (hinf : P.info? e = some inf) (hsz : inf.size = sz) (hp : Ev (M8 · env) p (AV.is (sliced (some ⟨g, 0, none⟩) k m cap sz))) (hq : M7 own (M8 · env) q sz fs) (hi : own[i]? = some (.arr (slv g len cap) e sz es))
    (hk : k + fs.length ≤ len) (hm : k + fs.length ≤ m) (hmc : m ≤ cap) (hne : fs ≠ []) (c : Q5 P G n ops rest ⟨own.set i (.arr (slv g len cap) e sz (es.take k ++ fs ++ es.drop (k + fs.length))), (d, AV.int fs.length) :: env⟩ K) : Q5 P G n ops (o :: rest) ⟨own, env⟩ K :=
  AE8 hg fun w0 R0 R a w ⟨h1, h2, h3, h4⟩ => by
    have e1 : a.eval p = _ := AR3 (s := ⟨own, env⟩) (o := o) hp h2;obtain ⟨hfu, hsrc⟩ := hq G w0 R0 R a w h1 (fun t _ y hy => h2 t y hy);obtain ⟨ad, sc, vs, e2, hcell, hden⟩ := hsrc hne;have hpos : 0 < fs.length := List.length_pos_iff.2 hne;have hok := h1.owned _ (C2 hi);obtain ⟨hl, hlc, hcm, hu, cur, xs, hgw, hcs, htake, hxl, hdc⟩ := Al1 hok;rw [BU5 qz8 hmc] at e1;have hvl : vs.length = fs.length * sz := by rw [hden.1, AG6 hfu]
    have hmin : Nat.min fs.length (m - k) = fs.length := Nat.min_eq_left qz8;have hone : ∀ u ∈ vs, u.oneCell' = true := fun u hmu => by
      obtain ⟨j, hj⟩ := i7 hmu;have hjl : j < fs.flatten.length := by rw [← hden.1]; exact (G2.1 hj).1
      exact (hden.2 j u _ hj (P2 hjl)).2
    have hb1 : k * sz + fs.length * sz ≤ len * sz := by rw [← Nat.add_mul]; exact AA3 sz hk
    have hb2 : len * sz ≤ cap * sz := AA3 sz hlc;have hr := Bi2 (P := P) w t t o.type e g (k * sz) (m - k) (cap - k) ad fs.length sc cur e vs ht hinf hgw (by rw [hmin, hsz]; exact hvl) hcell (by rw [hvl, hcs]; omega) hone;rw [hmin] at hr;have hex : (execOp a.eval o).run P w = .ok (.value (.int .i64 fs.length)) (w.setRow g (cur.toList.take (k * sz) ++ vs ++ cur.toList.drop (k * sz + vs.length)).toArray) := by
      simp only [execOp, ho, resolve, invoke, builtin, Sem.run_bind, Sem.run_pure, Result.andThen_ok, AP8, j4, List.map_nil, e1, e2, hr, goInt]
    unfold Oper.wp;rw [hex, Oper.upon_value, hd];have hel : (es.take k ++ fs ++ es.drop (k + fs.length)).length = len := by simp; omega
    refine ⟨_, R, c, L6.refl _, Af7 h1 hi rfl rfl ⟨hok.1, fun z hz => ?_, xs.take (k * sz) ++ vs ++ xs.drop (k * sz + vs.length), ⟨?_, .inr ⟨g, cap, _, by rw [hel], E2 _, setRow_heap w g _ _ e _ hgw, by rw [hel]; exact hlc, hcm, ?_, ?_⟩⟩, ?_⟩ (AQ4 w g _), AD5 h2 (L6.refl _) At2 rfl, by rw [size_put]; exact h3, by rw [Y5]; exact h4⟩
    · rcases u6.1 hz with hz | hz
      · rcases u6.1 hz with hz | hz
        · exact hu z (AW6 hz)
        · exact hfu z hz
      · exact hu z (List.mem_of_mem_drop hz)
    · rw [hel]; simp only [G3, H4, AD4, hxl, hvl]; omega
    · simp only [List.size_toArray, G3, H4, AD4, AJ4, hvl, hcs]; omega
    · rw [hel, ← htake]
      exact Bw1 (by rw [AJ4, hcs]; exact hb2) (by rw [hvl]; exact hb1)
    · rw [Cl9 hu hfu]
      exact BD5 hdc hden (by rw [AG6 hu, AG6 hfu, ← hl]; exact hb1)
theorem Cm0 {ops : Array Oper} {rest : List Oper} {env : List (Nat × AV)} {K : H6 → Prop} {t e : TypeId} {p q : Operand} {d sz g len cap k : Nat} {inf : TypeInfo} {es : List (List AV)} (i : Nat) (hg : o.guard = none) (ho : o.op = .call { callee := .builtin .copy, args := #[p, q], argTypes := #[t, t] }) (hd : o.dst = some d) (hn : Nat.blt d n = true)
    (ht : P.underlying t = some (.slice e)) (hinf : P.info? e = some inf) (hsz : inf.size = sz) (hp : Ev (M8 · env) p (AV.is (sliced (some ⟨g, 0, none⟩) (k + 1) (len + 1) cap sz))) (hq : Ev (M8 · env) q (AV.is (sliced (some ⟨g, 0, none⟩) k (len + 1) cap sz))) (hi : own[i]? = some (.arr (slv g len cap) e sz es))
    (hk : k < len) (hc : len + 1 ≤ cap) (c : ∀ j, Q5 P G n ops rest ⟨own.set i (.arr (slv g (len + 1) cap) e sz (es.take (k + 1) ++ es.drop k)), (d, AV.int j) :: env⟩ K) : Q5 P G n ops (o :: rest) ⟨own, env⟩ K :=
  AE8 hg fun w0 R0 R a w ⟨h1, h2, h3, h4⟩ => by
    have e1 : a.eval p = _ := AR3 (s := ⟨own, env⟩) (o := o) hp h2;have e2 : a.eval q = _ := AR3 (s := ⟨own, env⟩) (o := o) hq h2;have hok := h1.owned _ (C2 hi);obtain ⟨hl, hlc, hcm, hu, cur, xs, hgw, hcs, htake, hxl, hdc⟩ := Al1 hok;rw [BU5 qz8 hc] at e1 e2;have hmin : Nat.min (len + 1 - k) (len + 1 - (k + 1)) = len - k := by
      show min (len + 1 - k) (len + 1 - (k + 1)) = len - k
      omega
    have hb1 : (k + 1) * sz + (len - k) * sz = (len + 1) * sz := by rw [← Nat.add_mul]; congr 1; omega
    have hb2 : (len + 1) * sz ≤ cap * sz := AA3 sz hc;have hb3 : (k + 1) * sz ≤ len * sz := AA3 sz qz8;have hb4 : len * sz ≤ cap * sz := AA3 sz hlc;have hvl : (xs.drop (k * sz)).length = (len - k) * sz := by rw [AD4, hxl, Nat.sub_mul]
    have hone : ∀ u ∈ xs.drop (k * sz), u.oneCell' = true := fun u hmu => by
      obtain ⟨j, hj⟩ := i7 (List.mem_of_mem_drop hmu);have hjl : j < es.flatten.length := by rw [← hdc.1]; exact (G2.1 hj).1
      exact (hdc.2 j u _ hj (P2 hjl)).2
    have hcell : ∀ j u, (xs.drop (k * sz))[j]? = some u → w.cell? ((⟨g, k * sz, none⟩ : Addr).add j) = some u := fun j u hu' => by
      rw [AW5] at hu';have hjl : k * sz + j < len * sz := by rw [← hxl]; exact (G2.1 hu').1
      rw [addr_add];rw [← htake, AH0 hjl, Array.getElem?_toList] at hu';simp [World.cell?, hgw, hu']
    have hr := Bi2 (P := P) w t t o.type e g ((k + 1) * sz) (len + 1 - (k + 1)) (cap - (k + 1)) ⟨g, k * sz, none⟩ (len + 1 - k) (cap - k) cur e (xs.drop (k * sz)) ht hinf hgw (by rw [hmin, hsz]; exact hvl) hcell (by rw [hvl, hcs]; omega) hone;rw [hmin] at hr;have hex : (execOp a.eval o).run P w = .ok (.value (.int .i64 ((len - k : Nat) : Int))) (w.setRow g (cur.toList.take ((k + 1) * sz) ++ xs.drop (k * sz) ++ cur.toList.drop ((k + 1) * sz + (xs.drop (k * sz)).length)).toArray) := by
      simp only [execOp, ho, resolve, invoke, builtin, Sem.run_bind, Sem.run_pure, Result.andThen_ok, AP8, j4, List.map_nil, e1, e2, hr, goInt]
    unfold Oper.wp;rw [hex, Oper.upon_value, hd];have hel : (es.take (k + 1) ++ es.drop k).length = len + 1 := by simp; omega
    refine ⟨_, R, c _, L6.refl _, Af7 h1 hi rfl rfl ⟨hok.1, fun z hz => ?_, xs.take ((k + 1) * sz) ++ xs.drop (k * sz), ⟨?_, .inr ⟨g, cap, _, by rw [hel], E2 _, setRow_heap w g _ _ e _ hgw, by rw [hel]; exact hc, hcm, ?_, ?_⟩⟩, ?_⟩ (AQ4 w g _), AD5 h2 (L6.refl _) At2 rfl, by rw [size_put]; exact h3, by rw [Y5]; exact h4⟩
    · rcases u6.1 hz with hz | hz
      · exact hu z (AW6 hz)
      · exact hu z (List.mem_of_mem_drop hz)
    · rw [hel, G3, hvl, H4, hxl]; omega
    · simp only [List.size_toArray, G3, H4, AD4, AJ4, hcs, hxl]
      have : len * sz - k * sz = (len - k) * sz := (Nat.sub_mul _ _ _).symm;omega
    · rw [hel]
      show List.take ((len + 1) * sz) (cur.toList.take ((k + 1) * sz) ++ xs.drop (k * sz) ++ cur.toList.drop ((k + 1) * sz + (xs.drop (k * sz)).length)) = _
      have hl2 : (cur.toList.take ((k + 1) * sz) ++ xs.drop (k * sz)).length = (len + 1) * sz := by rw [G3, hvl, H4, AJ4, hcs]; omega
      rw [← hl2, List.take_left', ← htake, List.take_take, Nat.min_eq_left hb3];rfl
    · rw [Ah3, AL7 (k + 1) hu, AV1 k hu]
      refine Ac6 ⟨by simp [hdc.1], fun j u x hu' hx => ?_⟩ ⟨by simp [hdc.1], fun j u x hu' hx => ?_⟩
      · by_cases hj : j < (k + 1) * sz
        · rw [AH0 hj] at hu' hx; exact hdc.2 j u x hu' hx
        · rw [AT6 AR9] at hu'; cases hu'
      · rw [AW5] at hu' hx; exact hdc.2 _ u x hu' hx
theorem zero_den {R : H2} {z : Value} {sz : Nat} (hzs : z.cells.size = sz) (h1z : z.cells.toList.all Value.oneCell' = true) (hpos : 0 < sz) (m : Nat) : n7 R (Builtin.zeroCells z.cells m).toList (List.replicate m (z.cells.toList.map u7)).flatten := by
  have hlz := BA7 z sz hzs m;have hu : ∀ e ∈ List.replicate m (z.cells.toList.map u7), e.length = sz := fun e he => by rw [(Ao9.1 he).2]; simp [hzs]
  refine ⟨by rw [hlz.1, AG6 hu]; simp, fun j u x hu' hx => ?_⟩;have hjl : j < m * sz := by rw [← hlz.1]; exact (G2.1 hu').1
  have hjm : j % sz < sz := Nat.mod_lt _ hpos;have hjd : j / sz < m := Nat.div_lt_of_lt_mul (by rw [Nat.mul_comm]; exact hjl);have hjj : j / sz * sz + j % sz = j := by rw [Nat.mul_comm]; exact Nat.div_add_mod j sz
  have hzj : z.cells.toList[j % sz]? = some (z.cells.toList[j % sz]'qz131) := P2 _;have hx2 := AL3 hu (i := j / sz) (e := z.cells.toList.map u7) qz210 (k := j % sz) (x := u7 (z.cells.toList[j % sz]'qz131)) (by rw [Z5, hzj]; rfl);rw [hjj, hx] at hx2;injection hx2 with hx2
  have hu2 : u = z.cells.toList[j % sz]'qz131 := by
    rw [hlz.2 j u hu', getElem!_pos z.cells _ (by rw [hzs]; exact hjm)]; simp
  rw [hx2, hu2];exact ⟨Ae6 R _, Y6.1 h1z _ Y1⟩
theorem CG2 {ops : Array Oper} {rest : List Oper} {env : List (Nat × AV)} {K : H6 → Prop} {t tn e : TypeId} {p q : Operand} {kn : IntKind} {d sz by' g len cap j m : Nat} {inf : TypeInfo} {z : Value} {es : List (List AV)} (i : Nat) (hg : o.guard = none) (ho : o.op = .call { callee := .builtin .append, args := #[p, q], argTypes := #[t, tn] }) (hd : o.dst = some d) (hn : Nat.blt d n = true)
    (ht : P.underlying t = some (.slice e)) (htn : P.underlying tn = some (.int kn)) (hinf : P.info? e = some inf) (hz : inf.zero = some z) (hsz : inf.size = sz) (hby : inf.bytes = by') (hzs : z.cells.size = sz) (hpos' : Nat.ble 1 sz = true) (h1z : z.cells.toList.all Value.oneCell' = true) (hp : Ev (M8 · env) p (AV.is (slv g j cap))) (hq : Ev (M8 · env) q (AV.int m)) (hi : own[i]? = some (.arr (slv g len cap) e sz es))
    (hj : j ≤ len) (hm : 0 < m) (hc : cap < j + m) (hlen : (j + m) * by' ≤ 140737488355328) (hlen2 : j + m ≤ 9223372036854775807) (k : ∀ g' cap', j + m ≤ cap' → Q5 P G n ops rest ⟨.arr (slv g' (j + m) cap') e sz (es.take j ++ List.replicate m (z.cells.toList.map u7)) :: own, (d, AV.is (slv g' (j + m) cap')) :: env⟩ K) : Q5 P G n ops (o :: rest) ⟨own, env⟩ K :=
  AE8 hg fun w0 R0 R a w ⟨h1, h2, h3, h4⟩ => by
    have hpos := AR4 hpos';have e1 : a.eval p = _ := AR3 (s := ⟨own, env⟩) (o := o) hp h2;have e2 : a.eval q = .int .i64 m := AR3 (s := ⟨own, env⟩) (o := o) hq h2;obtain ⟨hl, hlc, hcm, hu, cur, xs, hgw, hcs, htake, hxl, hdc⟩ := Al1 (h1.owned _ (C2 hi));have hb1 : j * sz ≤ len * sz := AA3 sz hj;have hold : (Builtin.firstCells inf.size j (slv g j cap)).run P w.drew = .ok (xs.take (j * sz)).toArray w.drew := by
      have := run_loadCells_list (P := P) w.drew ⟨g, 0, none⟩ (xs.take (j * sz)) (fun i u hu' => by
        have hil : i < j * sz := by have := (G2.1 hu').1; rw [H4] at this; omega
        rw [AH0 hil, ← htake, AH0 qz8, Array.getElem?_toList] at hu';rw [addr_add, Nat.zero_add];show w.cell? _ = _
        simp [World.cell?, hgw, hu'])
      rw [H4, hxl, Nat.min_eq_left hb1] at this;simpa [Builtin.firstCells, hsz] using this
    have hr := Lib.run_append_grow_zeros (P := P) w t tn o.type e inf z .i64 kn ht htn hinf hz (some ⟨g, 0, none⟩) j cap _ hold m hm qz8 hc qz8 (by
      have : m * by' ≤ (j + m) * by' := AA3 _ qz8;rw [hby]; omega) (by rw [hby]; exact growslice_fits hc hlen)
    have hex : (execOp a.eval o).run P w = .ok (.value (slv w.heap.size (j + m) (grownCap w (j + m) cap e))) (w.drew.alloc (.cells ((xs.take (j * sz)).toArray ++ Builtin.zeroCells z.cells m ++ Builtin.zeroCells z.cells (grownCap w (j + m) cap e - (j + m))) e)) := by
      simp only [execOp, ho, resolve, invoke, builtin, Sem.run_bind, Sem.run_pure, Result.andThen_ok, AP8, j4, List.map_nil, e1, e2, hr]
    unfold Oper.wp;rw [hex, Oper.upon_value, hd];have hge := grownCap_ge w (j + m) cap e;have hcm2 : grownCap w (j + m) cap e ≤ maxLen := grownCap_le_maxLen w (j + m) cap e (by unfold maxLen; omega);have hl1 : (xs.take (j * sz)).length = j * sz := by rw [H4, hxl]; omega
    refine ⟨_, R, k _ _ hge, L6.refl _, Ak8 (sz := sz) (m := j + m) (cap := grownCap w (j + m) cap e) (Au4 h1) AR9 hge hcm2 ?_ (fun x hx => ?_) ?_, AD5 h2 (L6.refl _) At2 rfl, by rw [size_put]; exact h3, by rw [Y5]; exact h4⟩
    · simp only [Array.size_append, List.size_toArray, size_zeroCells, hl1, hzs, ← Nat.add_mul]
      congr 1; omega
    · rcases u6.1 hx with hx | hx
      · exact hu x (AW6 hx)
      · rw [(Ao9.1 hx).2]; simp [hzs]
    · have hsz3 : ((xs.take (j * sz)).toArray ++ Builtin.zeroCells z.cells m).toList.length = (j + m) * sz := by simp only [AJ4, Array.size_append, List.size_toArray, size_zeroCells, hl1, hzs, Nat.add_mul]
      rw [Array.toList_append, List.take_left' hsz3, Array.toList_append, Ah3];refine Ac6 ?_ (zero_den hzs h1z qz8 m);rw [AL7 j hu];exact ⟨by simp [hdc.1], fun i u x hu' hx => by
        by_cases hij : i < j * sz
        · simp only [AH0 hij] at hu' hx; exact hdc.2 i u x hu' hx
        · rw [AT6 AR9] at hu'; cases hu'⟩
theorem Bw4 {f : FuncId} {fn : Func} {t e tb : TypeId} {p q : Operand} {tys : Array TypeId} {gv cv g len cap k m sz : Nat} {lv : Nat} {es vs : List (List AV)} (iv i : Nat) (ho : o.op = .call { callee := .value (.func f), args := #[p, q], argTypes := tys }) (hf : P.funcs[f]? = some fn) (hname : (fn.name == "runtime.NumGoroutine") = false) (hb : fn.body.isNone = true) (hnx : Extern.findNext fn = none) (he : Extern.find fn = some (Extern.SlicesOverlaps.overlaps #[t, t] #[tb]))
    (ht : P.underlying t = some (.slice e)) (hsz : ∀ w, (sizeOf e).run P w = .ok sz w) (hp : Ev E p (AV.is (slv gv lv cv))) (hq : Ev E q (AV.is (sliced (some ⟨g, 0, none⟩) k m cap sz))) (hiv : own[iv]? = some (.arr (slv gv lv cv) e sz vs)) (hi : own[i]? = some (.arr (slv g len cap) e sz es)) (hne : Nat.beq iv i = false) (hcap : 0 < cap) (hpos : Nat.ble 1 sz = true) :
    OpW P G n own o E (AV.bool false) := AL6 fun w0 R0 R a w hcr hen => by
  have e1 : a.eval p = _ := H1 hp Ap5 hen;have e2 : a.eval q = _ := H1 hq Ap5 hen;have hb1 := AR4 hpos;have hij : iv ≠ i := fun h => by rw [h, Nat.beq_refl] at hne; cases hne
  obtain ⟨_, _, _, _, curv, xsv, hgv, hcv, _⟩ := Al1 (hcr.owned _ (C2 hiv));obtain ⟨_, _, _, _, cur, xs, hg, hcs, _⟩ := Al1 (hcr.owned _ (C2 hi));have hgne : gv ≠ g := fun h => Bs5 hcr.sep hiv hi hij (b := gv) rfl (by rw [h]; rfl);obtain ⟨ad, lb, cb, hsl, hadb⟩ : ∃ ad lb cb, sliced (some ⟨g, 0, none⟩) k m cap sz = .slice (some ad) lb cb ∧ ad.block = g := by
    unfold sliced;by_cases h : cap = k
    · exact ⟨_, _, _, by rw [D3 h], rfl⟩
    · exact ⟨_, _, _, by rw [C5 h, AH2], by rw [addr_add]⟩
  rw [hsl] at e2;have hkB : cap * sz ≠ 0 := Nat.mul_ne_zero qz8 qz8;have h3 := Lib.run_overlaps_apart (P := P) w t tb e ht sz hsz ⟨gv, 0, none⟩ ad lv cv lb cb (by rw [hadb]; exact hgne) e e curv.size cur.size (by simp [World.shape?, hgv]) (by simp [World.shape?, hadb, hg]) (by rw [hcs]; exact hkB) (by simp [World.frozen?, hgv]) (by simp [World.frozen?, hgv]);have h4 := run_callFunc_extern (P := P) hf hname hb hnx he #[slv gv lv cv, .slice (some ad) lb cb] w;rw [h3, Result.andThen_ok] at h4;refine ⟨.bool false, ?_, rfl⟩;simp only [execOp, ho, resolve, AP8, j4, List.map_nil, e1, e2, show a.eval (.func f) = .func (.func f) #[] #[] from rfl];simp [Deferred.ofValue, invoke, h4]
theorem DR9 {ops : Array Oper} {rest : List Oper} {env : List (Nat × AV)} {K : H6 → Prop} {t e : TypeId} {p q : Operand} {d sz g len cap k j : Nat} {inf : TypeInfo} {es : List (List AV)} (i : Nat) (hg : o.guard = none) (ho : o.op = .call { callee := .builtin .append, args := #[p, q], argTypes := #[t, t] }) (hd : o.dst = some d) (hn : Nat.blt d n = true)
    (ht : P.underlying t = some (.slice e)) (hinf : P.info? e = some inf) (hsz : inf.size = sz) (hp : Ev (M8 · env) p (AV.is (slv g k cap))) (hq : Ev (M8 · env) q (AV.is (sliced (some ⟨g, 0, none⟩) j len cap sz))) (hi : own[i]? = some (.arr (slv g len cap) e sz es)) (hk : k ≤ j) (hj : j ≤ len)
    (c : Q5 P G n ops rest ⟨own.set i (.arr (slv g (k + (len - j)) cap) e sz (es.take k ++ es.drop j)), (d, AV.is (slv g (k + (len - j)) cap)) :: env⟩ K) : Q5 P G n ops (o :: rest) ⟨own, env⟩ K :=
  AE8 hg fun w0 R0 R a w ⟨h1, h2, h3, h4⟩ => by
    have e1 : a.eval p = _ := AR3 (s := ⟨own, env⟩) (o := o) hp h2;have e2 : a.eval q = _ := AR3 (s := ⟨own, env⟩) (o := o) hq h2;have hok := h1.owned _ (C2 hi);obtain ⟨hl, hlc, hcm, hu, cur, xs, hgw, hcs, htake, hxl, hdc⟩ := Al1 hok;obtain ⟨ad, cb, hsl, hadb⟩ : ∃ ad cb, sliced (some ⟨g, 0, none⟩) j len cap sz = .slice (some ad) (len - j) cb ∧ (j < len → ad = ⟨g, j * sz, none⟩) := by
      unfold sliced;by_cases h : cap = j
      · exact ⟨_, _, by rw [D3 h], fun h' => by omega⟩
      · exact ⟨_, _, by rw [C5 h, AH2], fun _ => by rw [addr_add, Nat.zero_add]⟩
    rw [hsl] at e2;have hb0 : k * sz ≤ j * sz := AA3 sz hk;have hb1 : j * sz ≤ len * sz := AA3 sz hj;have hb4 : len * sz ≤ cap * sz := AA3 sz hlc;have hvl : (xs.drop (j * sz)).length = (len - j) * sz := by rw [AD4, hxl, Nat.sub_mul]
    have hsum : (len - j) * sz = len * sz - j * sz := Nat.sub_mul _ _ _;have hone : ∀ u ∈ xs.drop (j * sz), u.oneCell' = true := fun u hmu => by
      obtain ⟨i', hj'⟩ := i7 (List.mem_of_mem_drop hmu);have hjl : i' < es.flatten.length := by rw [← hdc.1]; exact (G2.1 hj').1
      exact (hdc.2 i' u _ hj' (P2 hjl)).2
    have hcell : ∀ i' u, (xs.drop (j * sz))[i']? = some u → w.cell? (ad.add i') = some u := fun i' u hu' => by
      rw [AW5] at hu';have hjl : j * sz + i' < len * sz := by rw [← hxl]; exact (G2.1 hu').1
      have hjlt : j < len := by
        rcases Nat.lt_or_ge j len with h | h
        · exact h
        · have := AA3 sz h; omega
      rw [hadb hjlt, addr_add];rw [← htake, AH0 hjl, Array.getElem?_toList] at hu';simp [World.cell?, hgw, hu']
    have hr := run_append_room (P := P) w t o.type e inf ht hinf g k cap cur hgw ad (len - j) cb (xs.drop (j * sz)) (by rw [hvl, hsz]) hcell hone qz8 (by rw [hvl, hcs, hsz]; omega);rw [hsz] at hr;have hex : (execOp a.eval o).run P w = .ok (.value (slv g (k + (len - j)) cap)) (w.setRow g (cur.toList.take (k * sz) ++ xs.drop (j * sz) ++ cur.toList.drop (k * sz + (xs.drop (j * sz)).length)).toArray) := by
      simp only [execOp, ho, resolve, invoke, builtin, Sem.run_bind, Sem.run_pure, Result.andThen_ok, AP8, j4, List.map_nil, e1, e2, hr]
    unfold Oper.wp;rw [hex, Oper.upon_value, hd];have hel : (es.take k ++ es.drop j).length = k + (len - j) := by simp; omega
    have hmul : (k + (len - j)) * sz = k * sz + (len - j) * sz := Nat.add_mul _ _ _;refine ⟨_, R, c, L6.refl _, Af7 h1 hi rfl rfl ⟨hok.1, fun z hz => ?_, xs.take (k * sz) ++ xs.drop (j * sz), ⟨?_, .inr ⟨g, cap, _, by rw [hel], E2 _, setRow_heap w g _ _ e _ hgw, by rw [hel]; omega, hcm, ?_, ?_⟩⟩, ?_⟩ (AQ4 w g _), AD5 h2 (L6.refl _) At2 rfl, by rw [size_put]; exact h3, by rw [Y5]; exact h4⟩
    · rcases u6.1 hz with hz | hz
      · exact hu z (AW6 hz)
      · exact hu z (List.mem_of_mem_drop hz)
    · rw [hel, G3, hvl, H4, hxl, hmul]; omega
    · simp only [List.size_toArray, G3, H4, AD4, AJ4, hcs, hxl]; omega
    · rw [hel]
      show List.take ((k + (len - j)) * sz) (cur.toList.take (k * sz) ++ xs.drop (j * sz) ++ cur.toList.drop (k * sz + (xs.drop (j * sz)).length)) = _
      have hl2 : (cur.toList.take (k * sz) ++ xs.drop (j * sz)).length = (k + (len - j)) * sz := by rw [G3, hvl, H4, AJ4, hcs, hmul]; omega
      rw [← hl2, List.take_left', ← htake, List.take_take, Nat.min_eq_left qz8];rfl
    · rw [Ah3, AL7 k hu, AV1 j hu]
      refine Ac6 ⟨by simp [hdc.1], fun i' u x hu' hx => ?_⟩ ⟨by simp [hdc.1], fun i' u x hu' hx => ?_⟩
      · by_cases hj' : i' < k * sz
        · rw [AH0 hj'] at hu' hx; exact hdc.2 i' u x hu' hx
        · rw [AT6 AR9] at hu'; cases hu'
      · rw [AW5] at hu' hx; exact hdc.2 _ u x hu' hx
theorem DS0 {ops : Array Oper} {rs : List Oper} {env : List (Nat × AV)} {K : H6 → Prop} {t e : TypeId} {p : Operand} {z : Value} {sz g len cap lo hi : Nat} {es : List (List AV)} (i : Nat) (hg : o.guard = none) (ho : o.op = .call { callee := .builtin .clear, args := #[p], argTypes := #[t] }) (hd : o.dst = none)
    (ht : P.underlying t = some (.slice e)) (hz : ∀ w, (zeroValue e).run P w = .ok z w) (hzs : z.cells.size = sz) (h1z : z.cells.toList.all Value.oneCell' = true) (hpos : Nat.ble 1 sz = true) (hp : Ev (M8 · env) p (AV.is (sliced (some ⟨g, 0, none⟩) lo hi cap sz))) (hi' : own[i]? = some (.arr (slv g len cap) e sz es)) (h1 : len ≤ lo) (h2 : lo ≤ hi) (h3 : hi ≤ cap)
    (c : Q5 P G n ops rs ⟨own, env⟩ K) : Q5 P G n ops (o :: rs) ⟨own, env⟩ K :=
  AE8 hg fun w0 R0 R a w ⟨h1', h2', h3', h4'⟩ => by
    have e1 : a.eval p = _ := AR3 (s := ⟨own, env⟩) (o := o) hp h2';have hok := h1'.owned _ (C2 hi');obtain ⟨hl, hlc, hcm, hu, cur, xs, hgw, hcs, htake, hxl, hdc⟩ := Al1 hok;have hb1 := AR4 hpos;by_cases hlh : lo = hi
    · have hex : (execOp a.eval o).run P w = .ok (.value (.tuple #[])) w := by
        subst hlh;simp only [execOp, ho, resolve, invoke, builtin, AP8, j4, List.map_nil, e1, sliced, Nat.sub_self, Sem.run_bind, Sem.run_pure, Result.andThen_ok];by_cases hc : cap = lo <;> simp [Builtin.clear_, run_underlying ht, hc]
      unfold Oper.wp;rw [hex, Oper.upon_value, hd];exact ⟨_, R, c, L6.refl _, h1', h2', h3', h4'⟩
    · obtain ⟨m, hm⟩ : ∃ m, hi - lo = m + 1 := ⟨hi - lo - 1, by omega⟩
      rw [BU5 qz8 h3, hm] at e1;have hlz := BA7 z sz hzs (m + 1);have hone : ∀ u ∈ (Builtin.zeroCells z.cells (m + 1)).toList, u.oneCell' = true := fun u hu => by
        obtain ⟨j, hj⟩ := i7 hu;rw [hlz.2 j u hj, getElem!_pos z.cells _ (by rw [hzs]; exact Nat.mod_lt _ qz8)];exact Y6.1 h1z _ Y1
      have hmul : lo * sz + (m + 1) * sz = hi * sz := by rw [← Nat.add_mul]; congr 1; omega
      have hmc : hi * sz ≤ cap * sz := AA3 sz h3;have hml : len * sz ≤ lo * sz := AA3 sz h1;have hst := run_storeCells_at (P := P) g (lo * sz) e (Builtin.zeroCells z.cells (m + 1)).toList 0 cur w hgw (by rw [hlz.1, hcs]; omega) hone;simp only [Nat.add_zero, hlz.1] at hst;have hex : (execOp a.eval o).run P w = .ok (.value (.tuple #[])) (w.setRow g (cur.toList.take (lo * sz) ++ (Builtin.zeroCells z.cells (m + 1)).toList ++ cur.toList.drop (lo * sz + (m + 1) * sz)).toArray) := by
        simp only [execOp, ho, resolve, invoke, builtin, AP8, j4, List.map_nil, e1, Sem.run_bind, Sem.run_pure, Result.andThen_ok];simp [Builtin.clear_, run_underlying ht, hz, hst]
      unfold Oper.wp;rw [hex, Oper.upon_value, hd];have hset : own.set i (.arr (slv g len cap) e sz es) = own := by
        obtain ⟨hlt, heq⟩ := G2.1 hi';rw [← heq]; exact List.set_getElem_self hlt
      obtain ⟨cur', hcur'⟩ : ∃ cur' : Array Value, cur' = (cur.toList.take (lo * sz) ++ (Builtin.zeroCells z.cells (m + 1)).toList ++ cur.toList.drop (lo * sz + (m + 1) * sz)).toArray := ⟨_, rfl⟩;have hs1 : cur'.size = cap * sz := by
        rw [hcur']; simp only [List.size_toArray, G3, H4, AD4, hlz.1, AJ4, hcs]; omega
      have hs2 : cur'.toList.take (len * sz) = xs := by
        rw [hcur', ← htake];show List.take (len * sz) (cur.toList.take (lo * sz) ++ (Builtin.zeroCells z.cells (m + 1)).toList ++ cur.toList.drop (lo * sz + (m + 1) * sz)) = _
        rw [m6, List.take_append_of_le_length (by rw [H4, AJ4, hcs]; omega), List.take_take, Nat.min_eq_left hml]
      rw [← hcur'];have hcore := Af7 (y := .arr (slv g len cap) e sz es) h1' hi' rfl rfl ⟨hok.1, hu, xs, ⟨by rw [hxl, hl], .inr ⟨g, cap, cur', by rw [hl], E2 _, setRow_heap w g _ _ e _ hgw, by rw [← hl]; exact hlc, hcm, hs1, by rw [← hl]; exact hs2⟩⟩, hdc⟩ (AQ4 w g cur');rw [hset] at hcore;exact ⟨_, R, c, L6.refl _, hcore, h2', h3', h4'⟩
end
section
variable {P : Program} {G : Nat → Prop} {n : Nat} {own : List Own} {o : Oper} {E : O8}
theorem AA1 {ops : Array Oper} {t e : TypeId} {sz : Nat} (ho : o.op = .buildSlice t 0 #[]) (ht : P.underlying t = some (.slice e)) (hs : ∀ w, (sizeOf e).run P w = .ok sz w)
    : OpE P G n own ops o E (fun _ : Value => True) (fun v' => own ++ [.arr v' e sz []]) (fun v' => AV.is v') :=
  fun w0 R0 R a w h1 h3 h2 => by
    have hex : (execOp a.eval o).run P w = .ok (.value (.slice (some ⟨w.heap.size, 0, none⟩) 0 0)) (w.alloc (.cells #[] e)) := by
      simp [execOp, ho, Instr.buildSlice, run_underlying ht, hs, newRow, Instr.fill, go_sem]
    unfold Oper.wp;rw [hex, Oper.upon_value];exact ⟨_, _, R, trivial, rfl, AD7 (Ak8 h1 rfl (N2 _) (E2 _) Y1 (fun x hx => by simp at hx) ⟨by simp, fun i v x h => by simp at h⟩) (AO2 (l₁ := [_])), L6.refl _, rfl⟩
theorem Aw9 {ops : Array Oper} {t e : TypeId} {len sz : Nat} {z : Value} {ps : Array (Nat × Operand)} {asl : List (Nat × List AV)} {cs : List AV} {es : List (List AV)} (ho : o.op = .buildSlice t len ps) (ht : P.underlying t = some (.slice e)) (hsz : ∀ w, (sizeOf e).run P w = .ok sz w) (hz : ∀ w, (zeroValue e).run P w = .ok z w)
    (hl : Nat.ble (len * sz) 1000 = true) (hl2 : Nat.ble len 1000 = true) (hzs : z.cells.size = sz) (h1' : z.cells.toList.all Value.oneCell' = true) (hp : EvP E ps.toList asl) (hc : Ah4 (fun i => some (i * sz, sz)) ((List.range (len * sz)).map fun i => u7 (z.cells[i % z.cells.size]!)) asl = some cs) (hes : chunks sz len cs = es)
    : OpE P G n own ops o E (fun _ : Value => True) (fun v' => own ++ [.arr v' e sz es]) (fun v' => AV.is v') :=
  fun w0 R0 R a w h1 h3 h2 => by
    obtain ⟨k1, k2⟩ := Bs6 (o := o) (fun t ht => h2 t (An6 ht)) hp fun p hpm => by simp [ho, Op.operands]; exact ⟨p.1, by simpa using hpm⟩
    have hone : ∀ i, i < len * sz → (z.cells[i % z.cells.size]!).oneCell' = true := fun i hi => by
      have hpos : 0 < z.cells.size := by
        rw [hzs];rcases Nat.eq_zero_or_pos sz with h0 | h0
        · subst h0; simp at hi
        · exact h0
      rw [getElem!_pos z.cells _ (Nat.mod_lt _ hpos)];exact Y6.1 h1' _ Y1
    obtain ⟨cells', f2, f3⟩ := Bc6 (R := R) (place := fun i => some (i * sz, sz)) _ asl ((Array.range (len * sz)).map fun i => z.cells[i % z.cells.size]!) _ cs ⟨by simp, fun i v y hv hy => by
      rw [Array.toList_map, Z5, Array.toList_range] at hv;rw [Z5] at hy;by_cases hi : i < len * sz
      · rw [List.getElem?_range hi] at hv hy
        simp only [AH2, Option.some.injEq] at hv hy;rw [← hv, ← hy];exact ⟨Ae6 R _, hone i hi⟩
      · rw [AT6 AR9] at hv; cases hv⟩ k1 k2 hc
    have hlen := AR4 hl;have h5 : cells'.toList.length = len * sz := by
      rw [f3.1, CX5 asl _ cs hc]; simp
    have hch := BU4 sz len cs (by rw [← f3.1]; exact h5);have h6 : (ps.map fun (i, x) => (i, a.eval x)).toList = ps.toList.map fun p => (p.1, a.eval p.2) := by simp
    have hrun : (execOp a.eval o).run P w = .ok (.value (.slice (some ⟨w.heap.size, 0, none⟩) len len)) (w.alloc (.cells cells' e)) := by
      have hcap : ¬ (len * sz > 2 ^ 24) := by omega
      by_cases h0 : len * sz = 0
      · have h7 : (Array.range (len * sz)).map (fun x => (#[] : Array Value)[x % (#[] : Array Value).size]!) = (Array.range (len * sz)).map fun i => z.cells[i % z.cells.size]! := by rw [h0]; simp
        rw [← h7] at f2;simp only [execOp, ho, Instr.buildSlice, run_underlying ht, hsz, hcap, if_false, Sem.run_bind, Sem.run_pure, Result.andThen_ok, Sem.run_ite, D3 h0, h6, f2, newRow, run_newObj, World.alloc_eq]
      · simp only [execOp, ho, Instr.buildSlice, run_underlying ht, hsz, hcap, if_false, Sem.run_bind, Sem.run_pure, Result.andThen_ok, Sem.run_ite, C5 h0, hz, h6, f2, newRow, run_newObj, World.alloc_eq]
    unfold Oper.wp;rw [hrun, Oper.upon_value];have hlz : es.length = len := by rw [← hes, W7]
    refine ⟨_, _, R, trivial, rfl, AD7 (Ak8 (sz := sz) (m := len) (cap := len) (es := es) h1 hlz (N2 _) (by have := AR4 hl2; unfold maxLen; omega) (by rw [← AJ4]; exact h5) (by rw [← hes]; exact hch.2) ?_) (AO2 (l₁ := [_])), L6.refl _, rfl⟩;rw [T4 (by rw [h5]; exact N2 _), ← hes, hch.1];exact f3
end
end Go.AV
namespace Go.AV
section
variable {P : Program} {G : Nat → Prop} {n : Nat} {own : List Own}
theorem S6 {t : List Own} {env : List (Nat × AV)} (k : Nat) (h : (own.drop k).Perm t) : Le G n ⟨own, env⟩ ⟨own.take k ++ t, env⟩ :=
  le_perm (by
    have := List.Perm.append_left (own.take k) h;rw [Ao8] at this;exact this)
theorem o5 {t : List Own} : t.Perm (t ++ []) := by rw [S0]
theorem N3 {t : List Own} : (t ++ []).Perm t := by rw [S0]
theorem Bd4 {sel rest : List Own} {is : List Nat} (h : pick own is = (sel, rest)) : own.Perm (sel ++ rest) := by
  induction is generalizing own sel rest with
  | nil => unfold pick at h; injection h with h1 h2; subst h1; subst h2; exact List.Perm.refl _
  | cons i is ih =>
    unfold pick at h
    cases hi : own[i]? with
    | none => rw [hi] at h; injection h with h1 h2; subst h1; subst h2; exact List.Perm.refl _
    | some x =>
      rw [hi] at h;injection h with h1 h2; subst h1; subst h2
      exact (Bc9 hi).trans (List.Perm.cons x (ih rfl))
section
variable {o : Oper} {E : O8}
theorem AE1 {ops : Array Oper} {t e : TypeId} {p q : Operand} {sz by' m : Nat} {inf : TypeInfo} {z : Value} (ho : o.op = .makeSlice t p q)
    (ht : P.underlying t = some (.slice e)) (hinf : P.info? e = some inf) (hz : inf.zero = some z) (hsz : inf.size = sz) (hby : inf.bytes = by') (hzs : z.cells.size = sz) (hpos : Nat.ble 1 sz = true) (h1' : z.cells.toList.all Value.oneCell' = true) (hp : Ev E p (AV.int m)) (hq : Ev E q (AV.int m))
    (hlen : m * by' ≤ 281474976710656) (hlen2 : m ≤ 281474976710656) : OpE P G n own ops o E (fun _ : Value => True) (fun v' => own ++ [.arr v' e sz (List.replicate m (z.cells.toList.map u7))]) (fun v' => AV.is v') :=
  fun w0 R0 R a w h1 h3 h2 => by
    have e1 : a.eval p = .int .i64 m := BN1 (ops := ops) hp O7 h2;have e2 : a.eval q = .int .i64 m := BN1 (ops := ops) hq O7 h2;have hb1 := AR4 hpos;have hr := run_make (P := P) w t e inf z ht hinf hz .i64 .i64 (m : Int) (m : Int) qz8 qz8 (by rw [hby]; have h9 : ((m * by' : Nat) : Int) ≤ 281474976710656 := qz8; rw [Int.natCast_mul] at h9; rw [Int.mul_comm]; exact h9) qz8;simp only [AA4] at hr;have hex : (execOp a.eval o).run P w = .ok (.value (.slice (some ⟨w.heap.size, 0, none⟩) m m)) (w.alloc (.cells (madeCells z.cells (m * inf.size)) e)) := by
      simp only [execOp, ho, e1, e2, hr, Sem.run_bind, Sem.run_pure, Result.andThen_ok]
    unfold Oper.wp;rw [hex, Oper.upon_value];have hms : (madeCells z.cells (m * inf.size)).size = m * sz := by rw [size_madeCells, hsz]
    refine ⟨_, _, R, trivial, rfl, AD7 (Ak8 h1 Y1 (N2 _) (by unfold maxLen; omega) hms (fun x hx => ?_) ⟨?_, fun j v x hv hx => ?_⟩) (AO2 (l₁ := [_])), L6.refl _, rfl⟩
    · rw [(Ao9.1 hx).2]; simp [hzs]
    · rw [AG6 (sz := sz) (fun x hx => by rw [(Ao9.1 hx).2]; simp [hzs])]
      simp [hms]
    · have hj : j < m * sz := by
        have := (G2.1 hx).1;rw [AG6 (sz := sz) (fun x hx => by rw [(Ao9.1 hx).2]; simp [hzs])] at this;simpa using this
      have hjm : j % sz < sz := Nat.mod_lt _ qz8;have hjj : j / sz * sz + j % sz = j := by rw [Nat.mul_comm]; exact Nat.div_add_mod j sz
      have hjd : j / sz < m := Nat.div_lt_of_lt_mul (by rw [Nat.mul_comm]; exact hj);have hzj : z.cells.toList[j % sz]? = some (z.cells.toList[j % sz]'qz131) := P2 _;have hx2 := AL3 (sz := sz) (es := List.replicate m (z.cells.toList.map u7)) (fun x hx => by rw [(Ao9.1 hx).2]; simp [hzs]) (i := j / sz) (e := z.cells.toList.map u7) qz210 (k := j % sz) (x := u7 (z.cells.toList[j % sz]'qz131)) (by rw [Z5, hzj]; rfl);rw [hjj, hx] at hx2;injection hx2 with hx2
      rw [AH0 hj] at hv;have hv2 : v = z.cells.toList[j % sz]'qz131 := by
        unfold madeCells at hv;rw [hsz] at hv;simp only [Array.toList_map, Array.toList_range, Z5, List.getElem?_range hj, AH2, Option.some.injEq] at hv;rw [← hv, hzs, getElem!_pos z.cells _ (by rw [hzs]; exact hjm)];simp
      rw [hx2, hv2];exact ⟨Ae6 R _, Y6.1 h1' _ Y1⟩
end
section
variable {α : Type} {ok : α → Prop} {O : α → List Own} {V : α → AV} {o : Oper}
theorem DS1 {ops : Array Oper} {rs : List Oper} {env : List (Nat × AV)} {K : H6 → Prop} {d : Nat} {f : FuncId} {args : Array Operand} {tys : Array TypeId} {ps : List Operand} {xs : List AV} {sel rest : List Own} {own' : α → List Own} (hg : o.guard = none) (ho : o.op = .call { callee := .value (.func f), args := args, argTypes := tys }) (hd : o.dst = some d) (hn : Nat.blt d n = true)
    (hc : ∀ (vs : Array Value) (w : World), (callFunc f vs).run P w = .ok (.enter f vs) w) (hps : args.toList = ps) (hp : own.Perm (sel ++ rest)) (hs : K8 P f xs sel ok O V) (he : EvL (M8 · env) ps xs) (hq : ∀ a, (O a ++ rest).Perm (own' a))
    (k : ∀ a, ok a → Q5 P G n ops rs ⟨own' a, (d, V a) :: env⟩ K) : Q5 P G n ops (o :: rs) ⟨own, env⟩ K :=
  AE8 hg fun w0 R0 R a w ⟨h1, h2, h3, h4⟩ => by
    have hcore := AD7 h1 hp;have hden := An7 (o := o) (fun t _ y hy => h2 t y hy) he fun p hp => by simp [ho, Op.operands, Call.operands]; right; rw [← hps] at hp; exact Array.mem_toList_iff.1 hp
    have hrun : (execOp a.eval o).run P w = .ok (.enter f (ps.map a.eval).toArray) w := by
      have hargs : args.map a.eval = (ps.map a.eval).toArray := by rw [← hps]; cases args; simp
      simp only [execOp, ho, resolve, hargs, show a.eval (.func f) = .func (.func f) #[] #[] from rfl];simp [Deferred.ofValue, invoke, hc]
    unfold Oper.wp;rw [hrun, Oper.upon_enter];refine (hs R w _ hcore.rle hden (fun q hq => hcore.owned q (AL1 _ hq)) (AA0 hcore).sep).mono fun e w' ⟨x, v, R', e0, e1, e2, e3⟩ => ?_;subst e1;have hR := AX2 hcore.rle e3.rold;refine ⟨⟨own' x, (d, V x) :: env⟩, R', k x e0, hR, AD7 (Aw7 hcore e3) (hq x), ?_, by rw [size_put]; exact h3, by rw [Y5]; exact h4⟩;rw [hd];exact AD5 h2 hR At2 e2
theorem AC5 {ops : Array Oper} {E : O8} {rest : List Own} (m : Nat) (h : OpE P G n own ops o E ok (fun a => rest ++ O a) V) : OpE P G n own ops o E ok (fun a => rest.take m ++ (O a ++ rest.drop m)) V := fun w0 R0 R a w h1 h2 h3 =>
  Oper.wp_mono2 (fun a' w' ⟨x, v, R', e0, e1, e2, e3, e4⟩ => ⟨x, v, R', e0, e1, AD7 e2 (by
    show (rest ++ O x).Perm (rest.take m ++ (O x ++ rest.drop m))
    conv => lhs; rw [← Ao8 m rest]
    rw [m6];exact List.Perm.append_left _ AO2), e3, e4⟩) (fun _ _ _ h => h) (h w0 R0 R a w h1 h2 h3)
theorem U8 {ops : Array Oper} {E : O8} {W' : α → List Own} {g : α → Value} {e : TypeId} {sz : Nat} {es : List (List AV)} (i : Nat) (hg : ∀ a, (W' a)[i]? = some (.arr (g a) e sz es)) (h : OpE P G n own ops o E ok W' V) : OpE P G n own ops o E (fun a => ok a ∧ (g a).oneCell' = true) W' V := fun w0 R0 R a w h1 h2 h3 =>
  Oper.wp_mono2 (fun a' w' ⟨x, v, R', e0, e1, e2, e3, e4⟩ => ⟨x, v, R', ⟨e0, DE1 (e2.owned _ (C2 (hg x)))⟩, e1, e2, e3, e4⟩) (fun _ _ _ h => h) (h w0 R0 R a w h1 h2 h3)
theorem X5 {ops : Array Oper} {E : O8} {t : TypeId} {z : Value} (ho : o.op = .alloc t)
    (hz : ∀ w, (zeroValue t).run P w = .ok z w) (h1' : z.cells.toList.all Value.oneCell' = true) : OpE P G n own ops o E (fun _ : Nat => True) (fun b => own ++ [.box b t (z.cells.toList.map u7)]) (fun b => AV.ptr b 0) :=
  fun w0 R0 R a w h1 h3 h2 => by
    have hrun : (execOp a.eval o).run P w = .ok (.value (.pointer (some ⟨w.heap.size, 0, none⟩))) (w.alloc (.cells z.cells.toList.toArray t)) := by
      simp only [execOp, ho, Instr.alloc, newVar, newRow, hz, Array.toArray_toList, Sem.run_bind, Sem.run_pure, Result.andThen_ok, run_newObj, World.alloc_eq]
    unfold Oper.wp;rw [hrun, Oper.upon_value];exact ⟨w.heap.size, _, R, trivial, rfl, AD7 (Bc5 h1 ⟨by simp, fun i v y hv hy => by
      rw [Z5, hv] at hy;simp at hy; subst hy;exact ⟨Ae6 R v, Y6.1 h1' v (C2 hv)⟩⟩) (AO2 (l₁ := [_])), L6.refl _, rfl⟩
theorem BU6 {o : Oper} {ops : Array Oper} {E : O8} {t t' : TypeId} {p q : Operand} {b off : Nat} {cs ys : List AV} {x : AV} (i : Nat) (ho : o.op = .store t p q) (hd : o.dst = none)
    (hp : Ev E p (AV.ptr b off)) (hq : Ev E q x) (hx : AI5 x ys) (hi : own[i]? = some (.box b t' cs)) (hs : ∀ w, (sizeOf t).run P w = .ok ys.length w) (hl : off + ys.length ≤ cs.length) : OpE P G n own ops o E (fun _ : Unit => True) (fun _ => own.set i (.box b t' (AO6 cs off ys))) (fun _ => AV.int 0) :=
  fun w0 R0 R a w h1 h3 h2 => by
    have e1 : a.eval p = .pointer (some ⟨b, off, none⟩) := BN1 (ops := ops) hp O7 h2;have e2 := hx R _ (BN1 (ops := ops) hq O7 h2);obtain ⟨hR, vs, hb, hdc⟩ := h1.owned _ (C2 hi);have hsz : (a.eval q).cells.size = ys.length := by rw [← AJ4]; exact e2.1
    have hst := BU3 (P := P) (t := t) (off := off) (u := a.eval q) hb (by rw [hsz]; exact hs w) (by rw [hsz, hdc.1]; exact hl) (fun u hu => by
      obtain ⟨j, hj⟩ := i7 hu;have hjl : j < ys.length := by rw [← e2.1]; exact (G2.1 hj).1
      exact (e2.2 j u _ hj (P2 hjl)).2)
    have hrun : (execOp a.eval o).run P w = .ok .skip (w.setRow b (vs.take off ++ (a.eval q).cells.toList ++ vs.drop (off + (a.eval q).cells.size)).toArray) := by
      simp only [execOp, ho, e1, hst, Sem.run_bind, Sem.run_pure, Result.andThen_ok]
    unfold Oper.wp;rw [hrun, Oper.upon_skip, hd];refine ⟨(), .int .i64 0, R, trivial, rfl, Af7 h1 hi rfl rfl ⟨hR, _, setRow_heap w b _ _ t' _ hb, ?_⟩ (AQ4 w b _), L6.refl _, rfl⟩;rw [← AJ4];exact BD5 hdc e2 hl
theorem o7 {ops : Array Oper} {E : O8} {t t' : TypeId} {p q : Operand} {b : Nat} {cs ys : List AV} {x : AV} (i : Nat) (ho : o.op = .store t p q) (hd : o.dst = none)
    (hp : Ev E p (AV.ptr b 0)) (hq : Ev E q x) (hx : AI5 x ys) (hi : own[i]? = some (.box b t' cs)) (hs : ∀ w, (sizeOf t).run P w = .ok ys.length w) (hl' : Nat.beq ys.length cs.length = true) : OpE P G n own ops o E (fun _ : Unit => True) (fun _ => own.set i (.box b t' ys)) (fun _ => AV.int 0) := by
  have e := Nat.eq_of_beq_eq_true hl';have h := BU6 (n := n) (P := P) (G := G) (ops := ops) i ho hd hp hq hx hi hs qz8;rw [CF7 e] at h;exact h
theorem BU7 {o : Oper} {ops : Array Oper} {E : O8} {t t' : TypeId} {p q : Operand} {b off : Nat} {cs : List AV} {x y : AV} (i : Nat) (ho : o.op = .store t p q) (hd : o.dst = none)
    (hp : Ev E p (AV.ptr b off)) (hq : Ev E q x) (hx : AI5 x [y]) (hi : own[i]? = some (.box b t' cs)) (hs : ∀ w, (sizeOf t).run P w = .ok 1 w) (hl' : Nat.ble (off + 1) cs.length = true) : OpE P G n own ops o E (fun _ : Unit => True) (fun _ => own.set i (.box b t' (cs.set off y))) (fun _ => AV.int 0) := by
  have h := BU6 (n := n) (P := P) (G := G) (ops := ops) i ho hd hp hq hx hi hs (AR4 hl');rw [CF6 (Nat.lt_of_succ_le (AR4 hl'))] at h;exact h
theorem sq_eff0 {o : Oper} {ops : Array Oper} {rest : List Oper} {env : List (Nat × AV)} {K : H6 → Prop} {α : Type} {ok : α → Prop} {W' : α → List Own} {V : α → AV} (hg : o.guard = none) (hd : o.dst = none) (h : OpE P G n own ops o (M8 · env) ok W' V) (k : ∀ a, ok a → Q5 P G n ops rest ⟨W' a, env⟩ K) : Q5 P G n ops (o :: rest) ⟨own, env⟩ K :=
  AE8 hg fun w0 R0 R a w ⟨h1, h2, h3, h4⟩ => Oper.wp_mono2 (fun a' w' ⟨x, v, R', e0, e1, e2, e3, e4⟩ => by
    subst e1;rw [hd];exact ⟨_, R', k x e0, e3, e2, h2.mono e3, h3, h4⟩) (fun _ _ _ h => h) (h w0 R0 R a w h1 h3 fun t _ y hy => h2 t y hy)
theorem CX6 {ops : Array Oper} {o : Oper} {rest : List Oper} {env : List (Nat × AV)} {K : H6 → Prop} {t t' : TypeId} {p q : Operand} {b off : Nat} {cs ys : List AV} {x : AV} (i : Nat) (hg : o.guard = none) (ho : o.op = .store t p q) (hd : o.dst = none)
    (hp : Ev (M8 · env) p (AV.ptr b off)) (hq : Ev (M8 · env) q x) (hx : AI5 x ys) (hi : own[i]? = some (.box b t' cs)) (hs : ∀ w, (sizeOf t).run P w = .ok ys.length w) (hl' : Nat.ble (off + ys.length) cs.length = true)
    (k : Q5 P G n ops rest ⟨own.set i (.box b t' (AO6 cs off ys)), env⟩ K) : Q5 P G n ops (o :: rest) ⟨own, env⟩ K :=
  sq_eff0 hg hd (BU6 i ho hd hp hq hx hi hs (AR4 hl')) fun _ _ => k
theorem M4 {ops : Array Oper} {o : Oper} {rest : List Oper} {env : List (Nat × AV)} {K : H6 → Prop} {t t' : TypeId} {p q : Operand} {b off : Nat} {cs : List AV} {x y : AV} (i : Nat) (hg : o.guard = none) (ho : o.op = .store t p q) (hd : o.dst = none)
    (hp : Ev (M8 · env) p (AV.ptr b off)) (hq : Ev (M8 · env) q x) (hx : AI5 x [y]) (hi : own[i]? = some (.box b t' cs)) (hs : ∀ w, (sizeOf t).run P w = .ok 1 w) (hl' : Nat.ble (off + 1) cs.length = true)
    (k : Q5 P G n ops rest ⟨own.set i (.box b t' (cs.set off y)), env⟩ K) : Q5 P G n ops (o :: rest) ⟨own, env⟩ K :=
  CX6 i hg ho hd hp hq hx hi hs hl' (by rw [CF6 (AR4 hl')]; exact k)
theorem DH8 {ops : Array Oper} {o : Oper} {rest : List Oper} {env : List (Nat × AV)} {K : H6 → Prop} {t t' : TypeId} {p q : Operand} {b : Nat} {cs ys : List AV} {x : AV} (i : Nat) (hg : o.guard = none) (ho : o.op = .store t p q) (hd : o.dst = none)
    (hp : Ev (M8 · env) p (AV.ptr b 0)) (hq : Ev (M8 · env) q x) (hx : AI5 x ys) (hi : own[i]? = some (.box b t' cs)) (hs : ∀ w, (sizeOf t).run P w = .ok ys.length w) (hl' : Nat.beq ys.length cs.length = true)
    (k : Q5 P G n ops rest ⟨own.set i (.box b t' ys), env⟩ K) : Q5 P G n ops (o :: rest) ⟨own, env⟩ K :=
  have e := Nat.eq_of_beq_eq_true hl'
  CX6 i hg ho hd hp hq hx hi hs (by rw [Nat.ble_eq]; omega) (by rw [CF7 e]; exact k)
theorem Au9 {ops : Array Oper} {rs : List Oper} {env : List (Nat × AV)} {K : H6 → Prop} {d : Nat} {f : FuncId} {args : Array Operand} {tys : Array TypeId} {ps : List Operand} {xs : List AV} {s1 r1 : List Own} (is : List Nat) (m j : Nat) (B D : List Own) (NT : α → List Own) (hg : o.guard = none) (ho : o.op = .call { callee := .value (.func f), args := args, argTypes := tys }) (hd : o.dst = some d) (hn : Nat.blt d n = true)
    (hc : ∀ (vs : Array Value) (w : World), (callFunc f vs).run P w = .ok (.enter f vs) w) (hps : args.toList = ps) (hp : pick own is = (s1, r1)) (hB : (r1.drop m).Perm (B ++ D)) (hs : K8 P f xs (s1 ++ B) ok O V) (he : EvL (M8 · env) ps xs) (hN : ∀ a, ((O a).drop j ++ D).Perm (NT a))
    (k : ∀ a, ok a → Q5 P G n ops rs ⟨(O a).take j ++ (r1.take m ++ NT a), (d, V a) :: env⟩ K) : Q5 P G n ops (o :: rs) ⟨own, env⟩ K := by
  refine DS1 (sel := s1 ++ B) (rest := r1.take m ++ D) (own' := fun a => (O a).take j ++ (r1.take m ++ NT a)) hg ho hd hn hc hps ?_ hs he (fun a => ?_) k
  · refine (Bd4 hp).trans ?_
    have h1 : r1.Perm (r1.take m ++ (B ++ D)) := by
      have := List.Perm.append_left (r1.take m) hB
      rwa [Ao8] at this
    refine (List.Perm.append_left s1 h1).trans ?_;rw [m6];refine List.Perm.append_left s1 ?_;rw [← m6, ← m6];exact List.Perm.append_right D AO2
  · have h1 : (O a ++ (r1.take m ++ D)).Perm ((O a).take j ++ (r1.take m ++ ((O a).drop j ++ D))) := by
      conv => lhs; rw [← Ao8 j (O a)]
      rw [m6];refine List.Perm.append_left _ ?_;rw [← m6, ← m6];exact List.Perm.append_right D AO2
    exact h1.trans (List.Perm.append_left _ (List.Perm.append_left _ (hN a)))
theorem L3 {ops : Array Oper} {rs : List Oper} {env : List (Nat × AV)} {K : H6 → Prop} {d : Nat} {f : FuncId} {args : Array Operand} {tys : Array TypeId} {ps : List Operand} {xs : List AV} {s1 r1 : List Own} (is : List Nat) (m j : Nat) (B : List Own) (NT : α → List Own) (hg : o.guard = none) (ho : o.op = .call { callee := .value (.func f), args := args, argTypes := tys }) (hd : o.dst = some d) (hn : Nat.blt d n = true)
    (hc : ∀ (vs : Array Value) (w : World), (callFunc f vs).run P w = .ok (.enter f vs) w) (hps : args.toList = ps) (hp : pick own is = (s1, r1)) (hs : K8 P f xs (s1 ++ B) ok O V) (he : EvL (M8 · env) ps xs) (hN : ∀ a, ((O a).drop j ++ []).Perm (NT a))
    (k : ∀ a, ok a → Q5 P G n ops rs ⟨(O a).take j ++ (r1.take m ++ NT a), (d, V a) :: env⟩ K) (hB : r1.drop m = B := by exact rfl) : Q5 P G n ops (o :: rs) ⟨own, env⟩ K :=
  Au9 is m j B [] NT hg ho hd hn hc hps hp (by rw [S0]; exact hB ▸ List.Perm.refl _) hs he hN k
theorem retGT {fn : Func} {s : H6} {sel rest : List Own} (is : List Nat) (m : Nat) (B D : List Own) (x : α) (hx : ok x) (hp : pick s.own is = (sel, rest)) (hB : (rest.drop m).Perm (B ++ D)) (ho : O x = sel ++ B) (h : ∀ w0 R0 R a w, St G n w0 R0 s R a w → ∃ v, (results fn a.tmps).run P w = .ok v w ∧ (V x).den R v) : I7 P G n fn s ok O V := fun w0 R0 R a w hs => by
  obtain ⟨v, h1, h2⟩ := h w0 R0 R a w hs;refine ⟨x, v, R, hx, h1, h2, L6.refl _, ?_⟩;rw [ho];refine AA0 (b := rest.take m ++ D) (AD7 hs.1 ?_);refine (Bd4 hp).trans ?_;have h1 : rest.Perm (rest.take m ++ (B ++ D)) := by
    have := List.Perm.append_left (rest.take m) hB
    rwa [Ao8] at this
  refine (List.Perm.append_left sel h1).trans ?_;rw [m6];refine List.Perm.append_left sel ?_;rw [← m6, ← m6];exact List.Perm.append_right D AO2
theorem G8 {fn : Func} {s : H6} {sel rest : List Own} (is : List Nat) (m : Nat) (B : List Own) (x : α) (hx : ok x) (hp : pick s.own is = (sel, rest)) (ho : O x = sel ++ B) (h : ∀ w0 R0 R a w, St G n w0 R0 s R a w → ∃ v, (results fn a.tmps).run P w = .ok v w ∧ (V x).den R v) (hB : rest.drop m = B := by exact rfl) : I7 P G n fn s ok O V :=
  retGT is m B [] x hx hp (by rw [S0]; exact hB ▸ List.Perm.refl _) ho h
end
end
inductive OT where
  | nil
  | pure (i : Nat) (t : OT)
  | e1 (i : Nat) (t : OT)
  | e2 (i : Nat) (t : OT) (j : Nat) (u : OT)
def OT.deep : OT → Nat → Bool
  | .nil, 0 => true
  | .pure _ t, f + 1 => t.deep f
  | .e1 _ t, f + 1 => t.deep f
  | .e2 _ t _ u, f + 1 => t.deep f && u.deep f
  | _, _ => false
def Bh1 (md : Region.Mode) (ops : Array Oper) (g m : Nat) : OT → Array Bool → Bool
  | .nil, listed => Region.seqB md ops g m listed
  | .pure i r, listed => (Region.ready md ops listed).contains i && Region.free md ops listed i && Nat.blt i m && Bh1 md ops g m r (listed.setIfInBounds i true)
  | .e1 i r, listed => decide (Region.ready md ops listed = [i]) && Nat.blt i m && Bh1 md ops g m r (listed.setIfInBounds i true)
  | .e2 i r j u, listed => decide (Region.ready md ops listed = [i, j]) && Nat.blt i m && Nat.blt j m && Bh1 md ops g m r (listed.setIfInBounds i true) && Bh1 md ops g m u (listed.setIfInBounds j true)
def treeB (md : Region.Mode) (ops : Array Oper) (m : Nat) (ord : OT) : Bool :=
  decide (m < ops.size) && ord.deep m && Region.sinkB md ops m && Region.chainB md ops m && Bh1 md ops (ops.size - m) m ord (Array.replicate ops.size false)
section
variable {P : Program} {G : Nat → Prop} {n : Nat}
def Ad8 (P : Program) (G : Nat → Prop) (n : Nat) (Inv : List Own → Prop) (ops : Array Oper) (i : Nat) (env : List (Nat × AV)) (W : List Own) (K : List (Nat × AV) → List Own → Prop) : Prop :=
  ∃ o, ops[i]? = some o ∧ o.guard = none ∧ ∃ (α : Type) (ok : α → Prop) (W' : α → List Own) (V : α → AV), OpE P G n W ops o (M8 · env) ok W' V ∧ (∀ a, ok a → Inv (W' a)) ∧ ∀ a, ok a → K (BW8 o.dst (V a) env) (W' a)
def BT (P : Program) (G : Nat → Prop) (n : Nat) (Inv : List Own → Prop) (ops : Array Oper) : OT → List (Nat × AV) → List Own → (List (Nat × AV) → List Own → Prop) → Prop
  | .nil, env, W, K => K env W
  | .pure i r, env, W, K => ∃ o, ops[i]? = some o ∧ ∃ x, (∀ W', Inv W' → OpA P G n W' ops o (M8 · env) x) ∧ BT P G n Inv ops r (BW8 o.dst x env) W K
  | .e1 i r, env, W, K => Ad8 P G n Inv ops i env W fun env' W' => BT P G n Inv ops r env' W' K
  | .e2 i r j u, env, W, K => (Ad8 P G n Inv ops i env W fun env' W' => BT P G n Inv ops r env' W' K) ∧ Ad8 P G n Inv ops j env W fun env' W' => BT P G n Inv ops u env' W' K
theorem BF3 {Inv : List Own → Prop} {md : Region.Mode} {ops : Array Oper} {m g : Nat} {K : List (Nat × AV) → List Own → Prop} (hs : Region.sinkB md ops m = true) (hc : Region.chainB md ops m = true) (hn : m < ops.size) :
    ∀ (l : OT) (f : Nat) (listed : Array Bool) (env : List (Nat × AV)) (W : List Own), l.deep f = true → HeadInv md ops m listed → Inv W →
    Bh1 md ops g m l listed = true → BT P G n Inv ops l env W K →
    BP3 P G n Inv md ops m (fun listed' E W => Region.seqB md ops g m listed' = true ∧ ∃ env', E = (M8 · env') ∧ K env' W) f listed (M8 · env) W
  | .nil, 0, listed, env, W, _, _, _, hB, h => ⟨hB, env, rfl, h⟩
  | .nil, _ + 1, _, _, _, hdp, _, _, _, _ => by cases hdp
  | .pure _ _, 0, _, _, _, hdp, _, _, _, _ => by cases hdp
  | .e1 _ _, 0, _, _, _, hdp, _, _, _, _ => by cases hdp
  | .e2 _ _ _ _, 0, _, _, _, hdp, _, _, _, _ => by cases hdp
  | .pure i l, f + 1, listed, env, W, hdp, inv, hW, hB, h => by
    simp only [Bh1, D8] at hB;obtain ⟨⟨⟨hr, hf⟩, hlt⟩, hB'⟩ := hB;have hkn : i < m := Nat.blt_eq.mp hlt;have hr' : i ∈ Region.ready md ops listed := by simpa using hr
    obtain ⟨o, ho, x, hx, hK⟩ := h;refine BN0 ho hs hc hn hkn (fun listed' E W hL => seqB_ready hL.1) f listed _ W inv hW (Region.free_spec ho hf) hr' hx ?_;rw [← AB4];exact BF3 hs hc hn l f _ _ W hdp (inv.set hr' hkn) hW hB' hK
  | .e1 i l, f + 1, listed, env, W, hdp, inv, hW, hB, h => by
    simp only [Bh1, D8, H5] at hB;obtain ⟨⟨hr, hlt⟩, hB'⟩ := hB;have hkn : i < m := Nat.blt_eq.mp hlt;have hr' : i ∈ Region.ready md ops listed := by rw [hr]; simp
    obtain ⟨o, ho, hg, α, ok, W', V, h1, h2, h3⟩ := h;refine ⟨fun h0 => Bs1, fun j hj => ?_⟩;rw [hr] at hj;have : j = i := by simpa using hj
    subst this;refine ⟨hkn, ?_⟩;unfold qB;simp only [ho];refine .inr ⟨hg, α, ok, W', V, h1, h2, fun a ha => ?_⟩;rw [← AB4];exact BF3 hs hc hn l f _ _ (W' a) hdp (inv.set hr' hkn) (h2 a ha) hB' (h3 a ha)
  | .e2 i l k u, f + 1, listed, env, W, hdp, inv, hW, hB, h => by
    simp only [Bh1, D8, H5] at hB;obtain ⟨⟨⟨⟨hr, hlt⟩, hlt2⟩, hB'⟩, hB2⟩ := hB;simp only [OT.deep, D8] at hdp;have hkn : i < m := Nat.blt_eq.mp hlt;have hkn2 : k < m := Nat.blt_eq.mp hlt2;have hr' : i ∈ Region.ready md ops listed := by rw [hr]; simp
    have hr2 : k ∈ Region.ready md ops listed := by rw [hr]; simp
    obtain ⟨⟨o, ho, hg, α, ok, W', V, h1, h2, h3⟩, ⟨o', ho', hg', α', ok', W'', V', h1', h2', h3'⟩⟩ := h;refine ⟨fun h0 => Bs1, fun j hj => ?_⟩;rw [hr] at hj;simp only [T0, List.not_mem_nil, or_false] at hj;rcases hj with hj | hj
    · subst hj
      refine ⟨hkn, ?_⟩;unfold qB;simp only [ho];refine .inr ⟨hg, α, ok, W', V, h1, h2, fun a ha => ?_⟩;rw [← AB4];exact BF3 hs hc hn l f _ _ (W' a) hdp.1 (inv.set hr' hkn) (h2 a ha) hB' (h3 a ha)
    · subst hj
      refine ⟨hkn2, ?_⟩;unfold qB;simp only [ho'];refine .inr ⟨hg', α', ok', W'', V', h1', h2', fun a ha => ?_⟩;rw [← AB4];exact BF3 hs hc hn u f _ _ (W'' a) hdp.2 (inv.set hr2 hkn2) (h2' a ha) hB2 (h3' a ha)
theorem V9 {id : Nat} {l : List Oper} {Q : Exit → H6 → Prop} {env : List (Nat × AV)} {own : List Own} (base : List Own) (m : Nat) (ord : OT) (hm : P.follows .mixedOrders = true) (hB : treeB .any l.toArray m ord = true) (hd : Bu1 n l = true) (hb : Aj2 base own)
  (h : BT P G n (Aj2 base) l.toArray ord env own (fun env' W => Q5 P G n l.toArray (l.drop m) ⟨W, env'⟩ (Q .normal))) : AWP P G n (.region id l.toArray true) Q ⟨own, env⟩ := fun w0 R0 R a w ⟨h1, h2, h3, h4⟩ => by
 simp only [treeB, D8, H5] at hB;obtain ⟨⟨⟨⟨hn, hdp⟩, hs⟩, hc⟩, hlex⟩ := hB;have hn' : m < l.length := by simpa using hn
 have hdl : (l.drop m).length = l.toArray.size - m := by simp
 have inv0 : HeadInv .any l.toArray m (Array.replicate l.toArray.size false) :=
  ⟨by simp, fun j oj _ hl => Ci9, fun t _ ht => getD_in (by simpa using ht) (getD_replicate_false _ _)⟩
 have H := BF3 (g := l.toArray.size - m) hs hc hn ord m _ env own hdp inv0 hb hlex h;refine wp_region_any hm ?_;have := Af8 (w0 := w0) (R0 := R0) (R00 := R) (g := l.toArray.size - m) (Q' := fun e a' w' => ∃ s' R', Q e s' ∧ L6 R R' ∧ St G n w0 R0 s' R' a' w') (fun i o ho d e => Aw5 hd i o (by simpa using ho) d e) (fun listed E W R' a' w' g1 g2 g3 g4 g5 hL => by
  obtain ⟨hL1, env', rfl, hL2⟩ := hL
  have := wpAny_of_seq (P := P) (md := .any) (Q' := fun e a' w' => ∃ s' R', Q e s' ∧ L6 R R' ∧ St G n w0 R0 s' R' a' w') (l.drop m) m listed a' w' (fun j => by simp [AW5]) (by rw [hdl]; exact hL1)
   (AS0 (R00 := R) (K := Q .normal) (fun s' R' a w q r1 r2 => ⟨s', R', q, r1, r2⟩) _ (⟨W, env'⟩ : H6) R' a' w' g1 ⟨g2, g3, g4, g5⟩ hL2)
  rwa [hdl] at this) _ _ _ own R a _ (L6.refl _) (Au4 h1) h2 h3 h4 H
 rw [show m + (l.toArray.size - m) = l.toArray.size by omega] at this;exact this
section
variable {ops : Array Oper} {i j : Nat} {o : Oper} {r u : OT} {env : List (Nat × AV)} {W : List Own} {base : List Own} {K : List (Nat × AV) → List Own → Prop} {d : Nat} {x : AV}
theorem bt_nil {Inv : List Own → Prop} (h : K env W) : BT P G n Inv ops .nil env W K := h
theorem M0 (ho : ops[i]? = some o) (hg : o.guard = none) (hd : o.dst = some d) (h : ∀ ext, OpW P G n (base ++ ext) o (M8 · env) x) (k : BT P G n (Aj2 base) ops r ((d, x) :: env) W K) : BT P G n (Aj2 base) ops (.pure i r) env W K :=
  ⟨o, ho, x, fun W' ⟨ext, e⟩ => by subst e; exact BF1 hg (h ext), by rw [hd]; exact k⟩
theorem Al2 {c : Bool} (ho : ops[i]? = some o) (hd : o.dst = some d) (hg : G4 ops o (M8 · env) c) (h : c = true → ∀ ext, OpW P G n (base ++ ext) o (M8 · env) x) (k : BT P G n (Aj2 base) ops r ((d, AV.whn c x) :: env) W K) : BT P G n (Aj2 base) ops (.pure i r) env W K :=
  ⟨o, ho, _, fun W' ⟨ext, e⟩ => by subst e; exact CQ9 hg fun hc => h hc ext, by rw [hd]; exact k⟩
theorem bt_e1 {Inv : List Own → Prop} (h : Ad8 P G n Inv ops i env W fun env' W' => BT P G n Inv ops r env' W' K) : BT P G n Inv ops (.e1 i r) env W K := h
theorem AP4 {Inv : List Own → Prop} (h : Ad8 P G n Inv ops i env W fun env' W' => BT P G n Inv ops r env' W' K) (k : Ad8 P G n Inv ops j env W fun env' W' => BT P G n Inv ops u env' W' K) : BT P G n Inv ops (.e2 i r j u) env W K := ⟨h, k⟩
theorem AK5 {Inv : List Own → Prop} {α : Type} {ok : α → Prop} {W' : α → List Own} {V : α → AV} (ho : ops[i]? = some o) (hg : o.guard = none) (hd : o.dst = none) (h : OpE P G n W ops o (M8 · env) ok W' V) (hi : ∀ a, ok a → Inv (W' a)) (k : ∀ a, ok a → K env (W' a)) : Ad8 P G n Inv ops i env W K :=
  ⟨o, ho, hg, α, ok, W', V, h, hi, fun a ha => by rw [hd]; exact k a ha⟩
theorem J8 {Inv : List Own → Prop} {α : Type} {ok : α → Prop} {W' : α → List Own} {V : α → AV} (ho : ops[i]? = some o) (hg : o.guard = none) (hd : o.dst = some d) (h : OpE P G n W ops o (M8 · env) ok W' V) (hi : ∀ a, ok a → Inv (W' a)) (k : ∀ a, ok a → K ((d, V a) :: env) (W' a)) : Ad8 P G n Inv ops i env W K :=
  ⟨o, ho, hg, α, ok, W', V, h, hi, fun a ha => by rw [hd]; exact k a ha⟩
end
end
section
variable {T X : Type} {cs : T → List AV} {ocs : T → X → List AV} {ow : T → X → List Own}
def J9 (ocs : T → X → List AV) (l : List T) (xs : List X) : List (List AV) := List.zipWith ocs l xs
def nin (ow : T → X → List Own) (l : List T) (xs : List X) : List Own := (List.zipWith ow l xs).flatten
theorem U3 {l : List T} {xs : List X} (h : xs.length = l.length) : (J9 ocs l xs).length = l.length := by unfold J9; rw [List.length_zipWith]; omega
theorem X6 {l : List T} {xs : List X} {i : Nat} {p : T} {x : X} (hp : l[i]? = some p) (hx : xs[i]? = some x) : (J9 ocs l xs)[i]? = some (ocs p x) := by
  unfold J9; rw [List.getElem?_zipWith, hp, hx]
theorem CG3 {l : List T} {xs : List X} {p : T} {x : X} (h : xs.length = l.length) : J9 ocs (l ++ [p]) (xs ++ [x]) = J9 ocs l xs ++ [ocs p x] := by
  unfold J9; rw [List.zipWith_append h.symm]; rfl
theorem Cm1 {l : List T} {xs : List X} {p : T} {x : X} (h : xs.length = l.length) : (ow p x ++ nin ow l xs).Perm (nin ow (l ++ [p]) (xs ++ [x])) := by
  unfold nin; rw [List.zipWith_append h.symm, Ah3];refine List.perm_append_comm.trans ?_;simp
theorem BR6 {l : List T} {i : Nat} {p : T} (h : l[i]? = some p) : l.take (i + 1) = l.take i ++ [p] := by rw [W1, h]; rfl
theorem Ag0 {l : List T} {xs : List X} {p : T} {x : X} {i : Nat} (hp : l[i]? = some p) (h : xs.length = i) : (ow p x ++ nin ow (l.take i) xs).Perm (nin ow (l.take (i + 1)) (xs ++ [x])) := by
  have hi := (G2.1 hp).1;rw [BR6 hp];exact Cm1 (by rw [h, H4]; omega)
theorem AY9 {l : List T} {xs : List X} {p : T} {x : X} {i : Nat} (hp : l[i]? = some p) (h : xs.length = i) : J9 ocs (l.take i) xs ++ [ocs p x] = J9 ocs (l.take (i + 1)) (xs ++ [x]) := by
  have hi := (G2.1 hp).1;rw [BR6 hp, CG3 (by rw [h, H4]; omega)]
theorem AX4 {p : T} {x : X} : ∀ {l : List T} {xs : List X} {i : Nat}, l[i]? = some p → xs[i]? = some x → (nin ow l xs).Perm (ow p x ++ nin ow (l.eraseIdx i) (xs.eraseIdx i))
  | [], _, _, h, _ => by simp at h
  | _ :: _, [], _, _, h => by simp at h
  | q :: l, y :: xs, 0, hp, hx => by simp at hp hx; subst hp; subst hx; exact List.Perm.refl _
  | q :: l, y :: xs, i + 1, hp, hx => by
    have ih := AX4 (l := l) (xs := xs) (i := i) (by simpa using hp) AT1;unfold nin at *;simp only [List.zipWith_cons_cons, Ac1, BQ7];refine (List.Perm.append_left (ow q y) ih).trans ?_;rw [← m6, ← m6];exact List.Perm.append_right _ AO2
theorem DE2 {p p' : T} {x : X} {l : List T} {xs : List X} {i : Nat} (hp : l[i]? = some p) (hx : xs[i]? = some x) : (ow p' x ++ nin ow (l.eraseIdx i) (xs.eraseIdx i)).Perm (nin ow (l.set i p') xs) := by
  have hi := (G2.1 hp).1;have h := AX4 (ow := ow) (l := l.set i p') (xs := xs) (i := i) (p := p') (x := x) (AZ9 hi) hx;rw [List.eraseIdx_set_eq] at h;exact h.symm
theorem AU3 {p : T} {x : X} : ∀ {l : List T} {xs : List X} {i : Nat}, l[i]? = some p → xs[i]? = some x → J9 ocs l xs = J9 ocs (l.take i) (xs.take i) ++ ocs p x :: J9 ocs (l.drop (i + 1)) (xs.drop (i + 1))
  | [], _, _, h, _ => by simp at h
  | _ :: _, [], _, _, h => by simp at h
  | q :: l, y :: xs, 0, hp, hx => by simp at hp hx; subst hp; subst hx; rfl
  | q :: l, y :: xs, i + 1, hp, hx => by
    have ih := AU3 (p := p) (x := x) (l := l) (xs := xs) (i := i) (by simpa using hp) AT1;unfold J9 at *;simp only [List.zipWith_cons_cons, BD1, BI4, BQ8];rw [ih]
theorem DH9 {p p' : T} {x : X} {l : List T} {xs : List X} {i : Nat} (hp : l[i]? = some p) (hx : xs[i]? = some x) : J9 ocs (l.take i) (xs.take i) ++ ocs p' x :: J9 ocs (l.drop (i + 1)) (xs.drop (i + 1)) = J9 ocs (l.set i p') xs := by
  have hi := (G2.1 hp).1;rw [AU3 (l := l.set i p') (i := i) (p := p') (x := x) (AZ9 hi) hx, List.take_set_of_le (N2 _), List.drop_set_of_lt qz8]
theorem AT3 {p : T} {x : X} {l : List T} {xs : List X} {i : Nat} (hp : l[i]? = some p) (hx : xs[i]? = some x) : (J9 ocs (l.take i) (xs.take i)).length = i := by
  have h1 := (G2.1 hp).1;have h2 := (G2.1 hx).1;unfold J9; rw [List.length_zipWith, H4, H4]; omega
theorem Bd5 {p : T} {x : X} {l : List T} {xs : List X} {i : Nat} {r : List AV} (hp : l[i]? = some p) (hx : xs[i]? = some x) (hl : xs.length = l.length) : (J9 ocs (l.take i) (xs.take i) ++ r :: J9 ocs (l.drop (i + 1)) (xs.drop (i + 1))).length = l.length := by
  have h1 := (G2.1 hp).1;rw [G3, AT3 hp hx, I9];unfold J9; rw [List.length_zipWith, AD4, AD4]; omega
theorem Bt0 {p : T} {x : X} {l : List T} {xs : List X} {i : Nat} (hp : l[i]? = some p) (hx : xs[i]? = some x) : ∀ o ∈ ow p x, o ∈ nin ow l xs := fun o ho => (AX4 (ow := ow) (i := i) hp hx).mem_iff.2 (AL1 _ ho)
theorem Ag1 {own : List Own} {v : Value} {t : TypeId} {sz : Nat} {l : List T} {xs : List X} (hlc : ∀ p x, (∀ o ∈ ow p x, o ∈ own) → AH5 own (ocs p x) (cs p)) (hlen : xs.length = l.length) (i : Nat) (hi : own[i]? = some (.arr v t sz (J9 ocs l xs))) (hm : ∀ o ∈ nin ow l xs, o ∈ own) : AS5 own (AV.is v) (AV.list sz (l.map cs)) :=
  K3 (C2 hi) ⟨by rw [U3 hlen, A7], fun j a b ha hb => by
    rw [Z5] at hb
    cases hp : l[j]? with
    | none => rw [hp] at hb; cases hb
    | some p =>
      rw [hp] at hb;have hj := (G2.1 hp).1;obtain ⟨x, hx⟩ : ∃ x, xs[j]? = some x := ⟨_, P2 qz8⟩;rw [X6 hp hx] at ha;injection ha with ha; injection hb with hb; subst ha; subst hb
      exact hlc p x fun o ho => hm o (Bt0 hp hx o ho)⟩
end
section
variable {T : Type}
def Cw2 (mk : T → Int → T) (mn : T → Int → Int) : List T → Int → List T
  | [], _ => []
  | p :: l, k => mk p k :: Cw2 mk mn l (mn p k)
variable {mk : T → Int → T} {mn : T → Int → Int}
theorem CG4 : ∀ (l : List T) (k : Int), (Cw2 mk mn l k).length = l.length
  | [], _ => rfl
  | p :: l, k => by unfold Cw2; simp [CG4 l]
end
section
variable {P : Program} {G : Nat → Prop} {n : Nat} {own : List Own} {o : Oper}
theorem AU4 {rest : List Own} : ∀ b, (fun _ : Nat => False) b → b ∈ rest.filterMap Own.blk := fun _ h => h.elim
theorem N7 {rest : List Own} : ∀ b, AV4 [] b → b ∈ rest.filterMap Own.blk := fun _ ⟨_, h, _⟩ => by simp at h
theorem o6 {q q' : Own} {ow rest : List Own} (i : Nat) (h : rest[i]? = some q') (hb : Own.blk q = Own.blk q') (k : ∀ b, AV4 ow b → b ∈ rest.filterMap Own.blk) : ∀ b, AV4 (q :: ow) b → b ∈ rest.filterMap Own.blk := fun b ⟨x, hx, hxb⟩ => by
  rcases T0.1 hx with rfl | hx
  · exact List.mem_filterMap.2 ⟨q', C2 h, hb ▸ hxb⟩
  · exact k b ⟨x, hx, hxb⟩
theorem Bd6 {sel rest : List Own} {w0 : World} {R0 R : H2} {w : World} (h : U0 G w0 R0 (sel ++ rest) R w) (hG : ∀ b, G b → b ∈ rest.filterMap Own.blk) : U0 G w0 R0 rest (AH4 sel w R) w := by
  have hl := AA0 h;refine ⟨h.os, h.tape, h.output, h.size, h.block, Bs9 hl, fun b hb => ?_, fun q hq => ?_, fun q hq => h.fresh q (AD3 _ hq), (Bd0 h).sep⟩
  · unfold AH4
    cases hob : AT7 sel b with
    | true =>
      obtain ⟨x, hx, hxb⟩ := Ak6 hob;rcases h.fresh x (AL1 _ hx) b hxb with h1 | h1
      · omega
      · obtain ⟨y, hy, hyb⟩ := List.mem_filterMap.1 (hG b h1)
        exact absurd hyb (BF2 h.sep hx hy hxb)
    | false => exact h.rold b hb
  · have hk := h.owned q (AD3 _ hq)
    refine Own.ok_keep hk (AO8 hl) fun b hb => ⟨rfl, ?_⟩;unfold AH4
    cases hob : AT7 sel b with
    | true =>
      obtain ⟨x, hx, hxb⟩ := Ak6 hob;exact absurd hb (BF2 h.sep hx hq hxb)
    | false => exact (Own.ok_blk hk hb).1
theorem AL9 {env : List (Nat × AV)} {sel rest : List Own} {x y : AV} (is : List Nat) (t : Nat) (hp : pick own is = (sel, rest)) (ht : M8 t env = some x) (hl : AS5 sel x y) (hG : ∀ b, G b → b ∈ rest.filterMap Own.blk) : Le G n ⟨own, env⟩ ⟨rest, (t, y) :: env⟩ := fun w0 R0 R a w ⟨h1, h2, h3⟩ => by
  have hc := Ae7 h1 hp;refine ⟨AH4 sel w R, AO8 (AA0 hc), Bd6 hc hG, fun k z hz => ?_, h3⟩;simp only [M8] at hz;by_cases hk : t = k
  · subst hk
    simp [Nat.beq_refl] at hz;rw [← hz];exact hl G w0 R0 R w _ (AA0 hc) (h2 t x ht)
  · rw [Af5 hk, cond_false] at hz
    exact z.mono (AO8 (AA0 hc)) (h2 k z hz)
theorem Al3 {ops : Array Oper} {rest : List Oper} {env : List (Nat × AV)} {K : H6 → Prop} {d : Nat} {c : Bool} (hd : o.dst = some d) (hn : Nat.blt d n = true) (hg : G4 ops o (M8 · env) c)
    (ht : c = true → Q5 P G n ops ({ o with guard := none } :: rest) ⟨own, env⟩ K) (hf : c = false → Q5 P G n ops rest ⟨own, (d, AV.is undef) :: env⟩ K) : Q5 P G n ops (o :: rest) ⟨own, env⟩ K := fun w0 R0 R a w hs => by
  have hgc := hg R a fun t _ y hy => hs.2.1 t y hy
  cases c with
  | true =>
    refine ⟨fun _ => ?_, fun hw => by rw [hgc] at hw; exact Bool.noConfusion hw⟩;exact (ht rfl w0 R0 R a w hs).1 rfl
  | false =>
    refine ⟨fun hw => by rw [hgc] at hw; exact Bool.noConfusion hw, fun _ => ⟨_, R, hf rfl, L6.refl _, ?_⟩⟩;obtain ⟨h1, h2, h3, h4⟩ := hs;refine ⟨h1, ?_, by rw [size_put]; exact h3, by rw [Y5]; exact h4⟩;have := AQ3 (d := o.dst) (x := AV.is undef) (v := undef) h2 (L6.refl R) (fun q e => by rw [h3]; rw [hd] at e; injection e with e; subst e; exact Nat.blt_eq.mp hn) rfl;rw [hd] at this ⊢;exact this
theorem Bt1 {E : O8} {p : Operand} {b : Bool} {x : AV} (h : b = false) : CV9 E p b x := fun hb => by rw [h] at hb; cases hb
def T3 (x y : Int) : Int := IntKind.u64.wrap (((BitVec.ofInt IntKind.u64.bits x &&& BitVec.ofInt IntKind.u64.bits y).toNat : Nat) : Int)
theorem w_band {E : O8} {t ty : TypeId} {p q : Operand} {x y : Int} (ho : o.op = .binOp .and t p q ty) (hp : Ev E p (AV.ik .u64 x)) (hq : Ev E q (AV.ik .u64 y)) : OpW P G n own o E (AV.ik .u64 (T3 x y)) := P1 fun R a w _ he => by
  have h1 : a.eval p = .int .u64 x := H1 hp O7 he;have h2 : a.eval q = .int .u64 y := H1 hq O7 he;exact ⟨.int .u64 (T3 x y), by simp only [execOp, ho, h1, h2]; simp [go_sem]; rfl, rfl⟩
end
end Go.AV
namespace Go.AV
open Go
inductive OT3 where
  | nil
  | pure (i : Nat) (t : OT3)
  | e1 (i : Nat) (t : OT3)
  | e2 (i : Nat) (t : OT3) (j : Nat) (u : OT3)
  | e3 (i : Nat) (t : OT3) (j : Nat) (u : OT3) (k : Nat) (v : OT3)
def OT3.deep : OT3 → Nat → Bool
  | .nil, 0 => true
  | .pure _ t, f + 1 => t.deep f
  | .e1 _ t, f + 1 => t.deep f
  | .e2 _ t _ u, f + 1 => t.deep f && u.deep f
  | .e3 _ t _ u _ v, f + 1 => (t.deep f && u.deep f) && v.deep f
  | _, _ => false
def Ap1 (md : Region.Mode) (ops : Array Oper) (g m : Nat) : OT3 → Array Bool → Bool
  | .nil, listed => Region.seqB md ops g m listed
  | .pure i r, listed => (Region.ready md ops listed).contains i && Region.free md ops listed i && Nat.blt i m && Ap1 md ops g m r (listed.setIfInBounds i true)
  | .e1 i r, listed => decide (Region.ready md ops listed = [i]) && Nat.blt i m && Ap1 md ops g m r (listed.setIfInBounds i true)
  | .e2 i r j u, listed => decide (Region.ready md ops listed = [i, j]) && Nat.blt i m && Nat.blt j m && Ap1 md ops g m r (listed.setIfInBounds i true) && Ap1 md ops g m u (listed.setIfInBounds j true)
  | .e3 i r j u k v, listed => decide (Region.ready md ops listed = [i, j, k]) && Nat.blt i m && Nat.blt j m && Nat.blt k m && Ap1 md ops g m r (listed.setIfInBounds i true) && Ap1 md ops g m u (listed.setIfInBounds j true) && Ap1 md ops g m v (listed.setIfInBounds k true)
def treeB3 (md : Region.Mode) (ops : Array Oper) (m : Nat) (ord : OT3) : Bool :=
  decide (m < ops.size) && ord.deep m && Region.sinkB md ops m && Region.chainB md ops m && Ap1 md ops (ops.size - m) m ord (Array.replicate ops.size false)
section
variable {P : Program} {G : Nat → Prop} {n : Nat}
def BT3 (P : Program) (G : Nat → Prop) (n : Nat) (Inv : List Own → Prop) (ops : Array Oper) : OT3 → List (Nat × AV) → List Own → (List (Nat × AV) → List Own → Prop) → Prop
  | .nil, env, W, K => K env W
  | .pure i r, env, W, K => ∃ o, ops[i]? = some o ∧ ∃ x, (∀ W', Inv W' → OpA P G n W' ops o (M8 · env) x) ∧ BT3 P G n Inv ops r (BW8 o.dst x env) W K
  | .e1 i r, env, W, K => Ad8 P G n Inv ops i env W fun env' W' => BT3 P G n Inv ops r env' W' K
  | .e2 i r j u, env, W, K => (Ad8 P G n Inv ops i env W fun env' W' => BT3 P G n Inv ops r env' W' K) ∧ Ad8 P G n Inv ops j env W fun env' W' => BT3 P G n Inv ops u env' W' K
  | .e3 i r j u k v, env, W, K => (Ad8 P G n Inv ops i env W fun env' W' => BT3 P G n Inv ops r env' W' K) ∧ (Ad8 P G n Inv ops j env W fun env' W' => BT3 P G n Inv ops u env' W' K) ∧ Ad8 P G n Inv ops k env W fun env' W' => BT3 P G n Inv ops v env' W' K
theorem AZ0 {Inv : List Own → Prop} {md : Region.Mode} {ops : Array Oper} {m g : Nat} {K : List (Nat × AV) → List Own → Prop} (hs : Region.sinkB md ops m = true) (hc : Region.chainB md ops m = true) (hn : m < ops.size) :
    ∀ (l : OT3) (f : Nat) (listed : Array Bool) (env : List (Nat × AV)) (W : List Own), l.deep f = true → HeadInv md ops m listed → Inv W →
    Ap1 md ops g m l listed = true → BT3 P G n Inv ops l env W K →
    BP3 P G n Inv md ops m (fun listed' E W => Region.seqB md ops g m listed' = true ∧ ∃ env', E = (M8 · env') ∧ K env' W) f listed (M8 · env) W
  | .nil, 0, listed, env, W, _, _, _, hB, h => ⟨hB, env, rfl, h⟩
  | .nil, _ + 1, _, _, _, hdp, _, _, _, _ => by cases hdp
  | .pure _ _, 0, _, _, _, hdp, _, _, _, _ => by cases hdp
  | .e1 _ _, 0, _, _, _, hdp, _, _, _, _ => by cases hdp
  | .e2 _ _ _ _, 0, _, _, _, hdp, _, _, _, _ => by cases hdp
  | .e3 _ _ _ _ _ _, 0, _, _, _, hdp, _, _, _, _ => by cases hdp
  | .pure i l, f + 1, listed, env, W, hdp, inv, hW, hB, h => by
    simp only [Ap1, D8] at hB;obtain ⟨⟨⟨hr, hf⟩, hlt⟩, hB'⟩ := hB;have hkn : i < m := Nat.blt_eq.mp hlt;have hr' : i ∈ Region.ready md ops listed := by simpa using hr
    obtain ⟨o, ho, x, hx, hK⟩ := h;refine BN0 ho hs hc hn hkn (fun listed' E W hL => seqB_ready hL.1) f listed _ W inv hW (Region.free_spec ho hf) hr' hx ?_;rw [← AB4];exact AZ0 hs hc hn l f _ _ W hdp (inv.set hr' hkn) hW hB' hK
  | .e1 i l, f + 1, listed, env, W, hdp, inv, hW, hB, h => by
    simp only [Ap1, D8, H5] at hB;obtain ⟨⟨hr, hlt⟩, hB'⟩ := hB;have hkn : i < m := Nat.blt_eq.mp hlt;have hr' : i ∈ Region.ready md ops listed := by rw [hr]; simp
    obtain ⟨o, ho, hg, α, ok, W', V, h1, h2, h3⟩ := h;refine ⟨fun h0 => Bs1, fun j hj => ?_⟩;rw [hr] at hj;have : j = i := by simpa using hj
    subst this;refine ⟨hkn, ?_⟩;unfold qB;simp only [ho];refine .inr ⟨hg, α, ok, W', V, h1, h2, fun a ha => ?_⟩;rw [← AB4];exact AZ0 hs hc hn l f _ _ (W' a) hdp (inv.set hr' hkn) (h2 a ha) hB' (h3 a ha)
  | .e2 i l k u, f + 1, listed, env, W, hdp, inv, hW, hB, h => by
    simp only [Ap1, D8, H5] at hB;obtain ⟨⟨⟨⟨hr, hlt⟩, hlt2⟩, hB'⟩, hB2⟩ := hB;simp only [OT3.deep, D8] at hdp;have hkn : i < m := Nat.blt_eq.mp hlt;have hkn2 : k < m := Nat.blt_eq.mp hlt2;have hr' : i ∈ Region.ready md ops listed := by rw [hr]; simp
    have hr2 : k ∈ Region.ready md ops listed := by rw [hr]; simp
    obtain ⟨⟨o, ho, hg, α, ok, W', V, h1, h2, h3⟩, ⟨o', ho', hg', α', ok', W'', V', h1', h2', h3'⟩⟩ := h;refine ⟨fun h0 => Bs1, fun j hj => ?_⟩;rw [hr] at hj;simp only [T0, List.not_mem_nil, or_false] at hj;rcases hj with hj | hj
    · subst hj
      refine ⟨hkn, ?_⟩;unfold qB;simp only [ho];refine .inr ⟨hg, α, ok, W', V, h1, h2, fun a ha => ?_⟩;rw [← AB4];exact AZ0 hs hc hn l f _ _ (W' a) hdp.1 (inv.set hr' hkn) (h2 a ha) hB' (h3 a ha)
    · subst hj
      refine ⟨hkn2, ?_⟩;unfold qB;simp only [ho'];refine .inr ⟨hg', α', ok', W'', V', h1', h2', fun a ha => ?_⟩;rw [← AB4];exact AZ0 hs hc hn u f _ _ (W'' a) hdp.2 (inv.set hr2 hkn2) (h2' a ha) hB2 (h3' a ha)
  | .e3 i l k u q v, f + 1, listed, env, W, hdp, inv, hW, hB, h => by
    simp only [Ap1, D8, H5] at hB;obtain ⟨⟨⟨⟨⟨⟨hr, hlt⟩, hlt2⟩, hlt3⟩, hB'⟩, hB2⟩, hB3⟩ := hB;simp only [OT3.deep, D8] at hdp;have hkn : i < m := Nat.blt_eq.mp hlt;have hkn2 : k < m := Nat.blt_eq.mp hlt2;have hkn3 : q < m := Nat.blt_eq.mp hlt3;have hr' : i ∈ Region.ready md ops listed := by rw [hr]; simp
    have hr2 : k ∈ Region.ready md ops listed := by rw [hr]; simp
    have hr3 : q ∈ Region.ready md ops listed := by rw [hr]; simp
    obtain ⟨⟨o, ho, hg, α, ok, W', V, h1, h2, h3⟩, ⟨o', ho', hg', α', ok', W'', V', h1', h2', h3'⟩, ⟨o3, ho3, hg3, α3, ok3, W3, V3, h13, h23, h33⟩⟩ := h;refine ⟨fun h0 => Bs1, fun j hj => ?_⟩;rw [hr] at hj;simp only [T0, List.not_mem_nil, or_false] at hj;rcases hj with hj | hj | hj
    · subst hj
      refine ⟨hkn, ?_⟩;unfold qB;simp only [ho];refine .inr ⟨hg, α, ok, W', V, h1, h2, fun a ha => ?_⟩;rw [← AB4];exact AZ0 hs hc hn l f _ _ (W' a) hdp.1.1 (inv.set hr' hkn) (h2 a ha) hB' (h3 a ha)
    · subst hj
      refine ⟨hkn2, ?_⟩;unfold qB;simp only [ho'];refine .inr ⟨hg', α', ok', W'', V', h1', h2', fun a ha => ?_⟩;rw [← AB4];exact AZ0 hs hc hn u f _ _ (W'' a) hdp.1.2 (inv.set hr2 hkn2) (h2' a ha) hB2 (h3' a ha)
    · subst hj
      refine ⟨hkn3, ?_⟩;unfold qB;simp only [ho3];refine .inr ⟨hg3, α3, ok3, W3, V3, h13, h23, fun a ha => ?_⟩;rw [← AB4];exact AZ0 hs hc hn v f _ _ (W3 a) hdp.2 (inv.set hr3 hkn3) (h23 a ha) hB3 (h33 a ha)
theorem CA6 {id : Nat} {l : List Oper} {Q : Exit → H6 → Prop} {env : List (Nat × AV)} {own : List Own} (base : List Own) (m : Nat) (ord : OT3) (hm : P.follows .mixedOrders = true) (hB : treeB3 .any l.toArray m ord = true) (hd : Bu1 n l = true) (hb : Aj2 base own)
  (h : BT3 P G n (Aj2 base) l.toArray ord env own (fun env' W => Q5 P G n l.toArray (l.drop m) ⟨W, env'⟩ (Q .normal))) : AWP P G n (.region id l.toArray true) Q ⟨own, env⟩ := fun w0 R0 R a w ⟨h1, h2, h3, h4⟩ => by
 simp only [treeB3, D8, H5] at hB;obtain ⟨⟨⟨⟨hn, hdp⟩, hs⟩, hc⟩, hlex⟩ := hB;have hn' : m < l.length := by simpa using hn
 have hdl : (l.drop m).length = l.toArray.size - m := by simp
 have inv0 : HeadInv .any l.toArray m (Array.replicate l.toArray.size false) :=
  ⟨by simp, fun j oj _ hl => Ci9, fun t _ ht => getD_in (by simpa using ht) (getD_replicate_false _ _)⟩
 have H := AZ0 (g := l.toArray.size - m) hs hc hn ord m _ env own hdp inv0 hb hlex h;refine wp_region_any hm ?_;have := Af8 (w0 := w0) (R0 := R0) (R00 := R) (g := l.toArray.size - m) (Q' := fun e a' w' => ∃ s' R', Q e s' ∧ L6 R R' ∧ St G n w0 R0 s' R' a' w') (fun i o ho d e => Aw5 hd i o (by simpa using ho) d e) (fun listed E W R' a' w' g1 g2 g3 g4 g5 hL => by
  obtain ⟨hL1, env', rfl, hL2⟩ := hL
  have := wpAny_of_seq (P := P) (md := .any) (Q' := fun e a' w' => ∃ s' R', Q e s' ∧ L6 R R' ∧ St G n w0 R0 s' R' a' w') (l.drop m) m listed a' w' (fun j => by simp [AW5]) (by rw [hdl]; exact hL1)
   (AS0 (R00 := R) (K := Q .normal) (fun s' R' a w q r1 r2 => ⟨s', R', q, r1, r2⟩) _ (⟨W, env'⟩ : H6) R' a' w' g1 ⟨g2, g3, g4, g5⟩ hL2)
  rwa [hdl] at this) _ _ _ own R a _ (L6.refl _) (Au4 h1) h2 h3 h4 H
 rw [show m + (l.toArray.size - m) = l.toArray.size by omega] at this;exact this
section
variable {ops : Array Oper} {i j : Nat} {o : Oper} {r u : OT3} {env : List (Nat × AV)} {W : List Own} {base : List Own} {K : List (Nat × AV) → List Own → Prop} {d : Nat} {x : AV}
theorem bt3_nil {Inv : List Own → Prop} (h : K env W) : BT3 P G n Inv ops .nil env W K := h
theorem AZ1 (ho : ops[i]? = some o) (hg : o.guard = none) (hd : o.dst = some d) (h : ∀ ext, OpW P G n (base ++ ext) o (M8 · env) x) (k : BT3 P G n (Aj2 base) ops r ((d, x) :: env) W K) : BT3 P G n (Aj2 base) ops (.pure i r) env W K :=
  ⟨o, ho, x, fun W' ⟨ext, e⟩ => by subst e; exact BF1 hg (h ext), by rw [hd]; exact k⟩
theorem bt3_e1 {Inv : List Own → Prop} (h : Ad8 P G n Inv ops i env W fun env' W' => BT3 P G n Inv ops r env' W' K) : BT3 P G n Inv ops (.e1 i r) env W K := h
theorem bt3_e3 {Inv : List Own → Prop} {q : Nat} {v : OT3} (h : Ad8 P G n Inv ops i env W fun env' W' => BT3 P G n Inv ops r env' W' K) (k : Ad8 P G n Inv ops j env W fun env' W' => BT3 P G n Inv ops u env' W' K) (k3 : Ad8 P G n Inv ops q env W fun env' W' => BT3 P G n Inv ops v env' W' K) : BT3 P G n Inv ops (.e3 i r j u q v) env W K := ⟨h, k, k3⟩
theorem Cm2 {Inv : List Own → Prop} (h : Ad8 P G n Inv ops i env W fun env' W' => BT3 P G n Inv ops r env' W' K) (k : Ad8 P G n Inv ops j env W fun env' W' => BT3 P G n Inv ops u env' W' K) : BT3 P G n Inv ops (.e2 i r j u) env W K := ⟨h, k⟩
end
end
section
variable {P : Program} {G : Nat → Prop} {n : Nat}
end
section
variable {P : Program} {G : Nat → Prop} {n : Nat} {own : List Own} {o : Oper}
theorem i9 {E : O8} {e : TypeId} {p : Operand} {k sz : Nat} {v : Value} {es : List (List AV)} {ys : List AV} (i : Nat) (ho : o.op = .nilCheck p) (hp : Ev E p (AV.is (AE9 v (k * sz)))) (hi : own[i]? = some (.arr v e sz es)) (hy : es[k]? = some ys) (h0 : Nat.blt 0 sz = true) : OpW P G n own o E (AV.is (AE9 v (k * sz))) := AL6 fun w0 R0 R a w hc he => by
  have e1 : a.eval p = _ := H1 hp O7 he;have hok := hc.owned _ (C2 hi);have hu := hok.2.1;have hyl : ys.length = sz := hu ys (C2 hy);have hb1 := Nat.blt_eq.mp h0;obtain ⟨g, u0, h1, _⟩ := Ak9 hok (AL3 hu hy (P2 (show 0 < ys.length by omega)));rw [Nat.add_zero] at h1;rw [h1] at e1;refine ⟨_, ?_, show AE9 v (k * sz) = _ from rfl⟩;rw [h1];simp only [execOp, ho, e1, Sem.run_pure]
end
end Go.AV
namespace Go.AV
def AV.wt (T : World → Prop) (x : AV) : AV := ⟨fun R v => x.den R v ∧ ∀ w' : World, RLe R w' → T w', fun h ⟨a, b⟩ => ⟨x.mono h a, fun w' hw => b w' fun b o e => hw b o (h b o e)⟩⟩
section
variable {P : Program} {G : Nat → Prop} {n : Nat} {own : List Own} {o : Oper} {E : O8}
theorem Bl7 {p : Operand} {x : AV} {T T' : World → Prop} (i : Nat) (hi : own[i]? = some (.tab T')) (hT : ∀ w, T' w → T w) (h : EvB own E p x) : EvB own E p (AV.wt T x) := fun G w0 R0 R a w hc he =>
  ⟨h G w0 R0 R a w hc he, fun w' hw' => hT w' ((hc.owned _ (C2 hi)) w' fun b o e => hw' b o (AO8 hc b o e))⟩
theorem core_tab {w0 w : World} {R0 R : H2} {T : World → Prop} (h : U0 G w0 R0 own R w) (ht : ∀ w' : World, RLe R w' → T w') : U0 G w0 R0 (.tab T :: own) R w where
  os := h.os
  tape := h.tape
  output := h.output
  size := h.size
  block := h.block
  rle := h.rle
  rold := h.rold
  owned o ho := by
    rcases T0.1 ho with rfl | ho
    · exact ht
    · exact h.owned o ho
  fresh o ho b hb := by
    rcases T0.1 ho with rfl | ho
    · cases hb
    · exact h.fresh o ho b hb
  sep := by
    rw [Aj6];exact h.sep
theorem BF4 {env : List (Nat × AV)} {t : Nat} {x : AV} {T : World → Prop} (ht : M8 t env = some (AV.wt T x)) : Le G n ⟨own, env⟩ ⟨.tab T :: own, (t, x) :: env⟩ := fun w0 R0 R a w ⟨h1, h2, h3⟩ => by
  have hx := h2 t _ ht;refine ⟨R, L6.refl _, core_tab h1 hx.2, fun k z hz => ?_, h3⟩;simp only [M8] at hz;by_cases hk : t = k
  · subst hk
    simp [Nat.beq_refl] at hz;rw [← hz];exact hx.1
  · rw [Af5 hk, cond_false] at hz
    exact h2 k z hz
theorem Cm3 {f : FuncId} {x y : AV} {T : World → Prop} (h : ∀ (R : H2) (w : World) (v : Value), RLe R w → x.den R v → T w → Calls P f #[v] w fun e w' => ∃ u, e = .returned u ∧ y.den R u ∧ Go.RowKit.Below w.heap.size w w') : K6 P f [AV.wt T x] y := fun R w vs hr hd => by
  match vs, hd.1 with
  | [v], _ =>
    have h1 := hd.2 0 v _ rfl rfl;refine (h R w v hr h1.1 (h1.2 w hr)).mono fun e w' ⟨u, h2, h3, h4⟩ => ⟨u, R, h2, h3, fun b o hb => ?_, fun _ _ => rfl, h4⟩;have hb2 := hr b o hb;rw [h4.block b (AZ8.1 hb2).1]; exact hb2
theorem Cx3 (w : World) (k : Nat) (os : Array Obj) : Go.RowKit.Below w.heap.size w (Go.Sort.grow (w.drewN k) os) :=
  ⟨rfl, rfl, rfl, by rw [Go.Sort.size_grow]; exact Nat.le_add_right _ _, fun b hb => Go.Sort.heap_grow_old (w.drewN k) os hb⟩
theorem DI0 {P : Program} {W w' : World} {name : String} {k : IntKind} {zs : List Int} (h : Lib.TabIs P W name k zs) (hw : RLe (Ay9 W) w') : Lib.TabIs P w' name k zs := by
  unfold Lib.TabIs World.var? at h ⊢
  cases hg : P.globalNamed name with
  | none => rw [hg] at h; cases h
  | some g =>
    rw [hg] at h;simp only [Option.bind_some] at h ⊢
    cases ho : W.heap[g]? with
    | none => rw [ho] at h; cases h
    | some o =>
      rw [ho] at h;rw [hw g o ho];exact h
end
end Go.AV
namespace Go.AV
open Go.RowKit (Below)
def AV.errB (b : Bool) : AV := ⟨fun _ v => (b = false → v = .nilIface) ∧ (b = true → ∃ t p, v = .iface t p), fun _ h => h⟩
section
variable {P : Program} {G : Nat → Prop} {n : Nat} {own : List Own} {o : Oper} {E : O8}
theorem w_errneq {b : Bool} {t : TypeId} {p : Operand} {ty : TypeId} (ho : o.op = .binOp .neq t p (.const .nilIface) ty) (ht : P.underlying t = some (.interface (P.methodsAt t))) (hp : Ev E p (AV.errB b)) : OpW P G n own o E (AV.bool b) := P1 fun R a w _ he => by
  have h1 : (b = false → a.eval p = .nilIface) ∧ (b = true → ∃ t p', a.eval p = .iface t p') := H1 hp O7 he;have h3 : a.eval (.const .nilIface) = .nilIface := rfl
  cases b with
  | false =>
    have h2 := h1.1 rfl;exact ⟨.bool false, by simp only [execOp, ho, h2, h3, eqGuard_nil_constR, Sem.run_bind, Sem.run_pure, Result.andThen_ok, run_neq_nil_nil w t ht], rfl⟩
  | true =>
    obtain ⟨u, x, h2⟩ := h1.2 rfl;exact ⟨.bool true, by simp only [execOp, ho, h2, h3, eqGuard_at_iface, Sem.run_bind, Sem.run_pure, Result.andThen_ok, run_neq_held_nil w t u x ht], rfl⟩
theorem Ac7 {f : FuncId} {args : Array Operand} {tys : Array TypeId} {ps : List Operand} {x : AV} {xs : List AV} {y : AV} {T T' : World → Prop} (i : Nat) (hi : own[i]? = some (.tab T')) (ho : o.op = .call { callee := .value (.func f), args := args, argTypes := tys }) (hc : ∀ (vs : Array Value) (w : World), (callFunc f vs).run P w = .ok (.enter f vs) w)
    (hps : args.toList = ps) (hs : K6 P f (AV.wt T x :: xs) y) (he : EvL E ps (x :: xs)) (hT : ∀ w, T' w → T w) : OpW P G n own o E y := fun w0 R0 R a w hcore _ hen => by
  have hd := An7 hen he fun p hp => by simp [ho, Op.operands, Call.operands]; right; rw [← hps] at hp; exact Array.mem_toList_iff.1 hp
  have htab : ∀ w' : World, RLe R w' → T w' := fun w' hw' => hT w' ((hcore.owned _ (C2 hi)) w' hw');have hd2 : i4 R (ps.map a.eval) (AV.wt T x :: xs) := ⟨hd.1, fun j v z hv hz => by
    cases j with
    | zero =>
      simp at hz; subst hz;exact ⟨hd.2 0 v x hv rfl, htab⟩
    | succ j => exact hd.2 (j + 1) v z hv hz⟩
  have hrun : (execOp a.eval o).run P w = .ok (.enter f (ps.map a.eval).toArray) w := by
    have hargs : args.map a.eval = (ps.map a.eval).toArray := by rw [← hps]; cases args; simp
    simp only [execOp, ho, resolve, hargs, show a.eval (.func f) = .func (.func f) #[] #[] from rfl];simp [Deferred.ofValue, invoke, hc]
  unfold Oper.wp;rw [hrun, Oper.upon_enter];refine (hs R w _ hcore.rle hd2).mono fun e w' ⟨v, R', e1, e2, e3, e4, e5⟩ => ?_;subst e1;exact ⟨v, R', rfl, hcore.step e5 e3 e4, AX2 hcore.rle e4, e2⟩
theorem DI1 (w : World) : Below w.heap.size w w := ⟨rfl, rfl, rfl, N2 _, fun _ _ => rfl⟩
theorem Cx4 (w : World) (e : TypeId) (t : ByteArray) : Below w.heap.size w (Lib.bytesWorld w e t) :=
  ⟨rfl, rfl, rfl, by rw [Lib.bytesWorld_size]; exact Nat.le_succ _, fun b hb => Lib.bytesWorld_at_old w e t b hb⟩
theorem Ce3 {H : Type} {enc : TypeId × Value → H} {a : Assume} {C : Checked} {os : Os} {f : FuncId} {fn : Func} {s : ChangeSpec} {conds : List PathCond} {apart fresh handsOn again : Bool} {X : World → Array Value → Prop}
    (hX : ∀ (w w' : World) (args : Array Value), w.heap = w'.heap → X w args → X w' args)
    (own : ownKnob C.prog.godebug = none) (started : os.Started) (noInit : C.prog.inits.idxOf? f = none) (hfn : C.prog.funcs[f]? = some fn)
    (witness : ∃ (w : World) (tape : Tape) (i : Input), w.os = os ∧ (w.forCall tape i).Shaped C.prog ∧ i.vars = [] ∧ Input.okWide C.prog (w.forCall tape i) .any w.heap.size f i ∧
      ((s.pre enc C.prog fn conds apart (w.forCall tape i).memory i.args ∧ X (w.forCall tape i).memory i.args) ∧ sizedMet enc C.prog fn (OpenSpec.ofChange s) apart (w.forCall tape i).memory i.args) ∧ a.holds C.prog (lone (Frame.enter C.prog f i.args .normal) [] (w.forCall tape i)))
    (contract : ∀ (W : World) (base : Nat) (args : Array Value) (ds gs : List (DataW H)) (before : List MemPlace),
      (∀ (j : Nat) t v, fn.params[j]? = some t → args[j]? = some v → Value.okWide C.prog W .any base t v) →
      DataW.Whole enc C.prog fn.params.toList s.vars apart W args.toList ds gs before →
      W.ShapedOpen C.prog →
      (DataW.weightsEach C.prog (fn.params.toList ++ s.plain.varTypes C.prog) (ds ++ gs)).all (· ≤ reachBytes) = true → X W args →
      a.holds C.prog (lone (Frame.enter C.prog f args .normal) [] W) →
      Calls C.prog f args W fun e W' => ∃ v, e = .returned v ∧ s.post enc C.prog fn apart fresh handsOn again W args v W') :
    ReturnsInHanded a C os f .any (fun w args => (s.pre enc C.prog fn conds apart w args ∧ X w args) ∧ sizedMet enc C.prog fn (OpenSpec.ofChange s) apart w args) (s.post enc C.prog fn apart fresh handsOn again) := by
  refine returnsInHanded_of_calls own started noInit witness ?_;intro w tape i _ hsh _ hok hpre hholds;obtain ⟨_, _, _, fn', hfn', _, _, _, _, hval⟩ := hok;have e : fn' = fn := Option.some.inj (hfn'.symm.trans hfn);subst e;obtain ⟨⟨⟨ds, gs, before, hw, hc⟩, hx⟩, hz⟩ := hpre;have hw' := DataW.Whole.of_heap (w' := w.forCall tape i) B8 hw;refine (contract (w.forCall tape i) w.heap.size i.args ds gs before hval hw' hsh (hz.weights hw) (hX _ _ _ B8 hx) hholds).mono fun e W' ⟨v, he, hp⟩ => ?_;subst he;exact ChangeSpec.post_blind hp
theorem Cm4 {P : Program} {W w' : World} {name : String} {vs : Array Value} (h : W.var? P name = some vs) (hw : RLe (Ay9 W) w') : w'.var? P name = some vs := by
  unfold World.var? at h ⊢
  cases hg : P.globalNamed name with
  | none => rw [hg] at h; cases h
  | some g =>
    rw [hg] at h;simp only [Option.bind_some] at h ⊢
    cases ho : W.heap[g]? with
    | none => rw [ho] at h; cases h
    | some o =>
      rw [ho] at h;rw [hw g o ho];exact h
end
end Go.AV
namespace Go.AV
theorem O1 {α β : Type} {f : α → β} {l : List α} {i : Nat} {x : α} (h : l[i]? = some x) : (l.map f)[i]? = some (f x) := by rw [Z5, h]; rfl
theorem B1 {α : Type} {l : List α} {i : Nat} {x y : α} (h : l[i]? = some y) : (l.set i x)[i]? = some x := AZ9 (G2.1 h).1
section
variable {P : Program} {G : Nat → Prop} {n : Nat} {own : List Own} {o : Oper} {E : O8}
theorem AB0 {f : FuncId} {args : Array Operand} {tys : Array TypeId} {ps : List Operand} {xs : List AV} {y : AV} {s1 r1 : List Own} (is : List Nat) (m : Nat) (B D : List Own) (ho : o.op = .call { callee := .value (.func f), args := args, argTypes := tys })
    (hc : ∀ (vs : Array Value) (w : World), (callFunc f vs).run P w = .ok (.enter f vs) w) (hps : args.toList = ps) (hp : pick own is = (s1, r1)) (hB : (r1.drop m).Perm (B ++ D)) (hs : K8 P f xs (s1 ++ B) (fun _ : Unit => True) (fun _ => s1 ++ B) (fun _ => y)) (he : EvL E ps xs) : OpW P G n own o E y := fun w0 R0 R a w hcore0 _ hen => by
  have hperm : own.Perm ((s1 ++ B) ++ (r1.take m ++ D)) := by
    refine (Bd4 hp).trans ?_;have h1 : r1.Perm (r1.take m ++ (B ++ D)) := by
      have := List.Perm.append_left (r1.take m) hB
      rwa [Ao8] at this
    refine (List.Perm.append_left s1 h1).trans ?_;rw [m6];refine List.Perm.append_left s1 ?_;rw [← m6, ← m6];exact List.Perm.append_right D AO2
  have hcore := AD7 hcore0 hperm;have hd := An7 hen he fun p hp => by simp [ho, Op.operands, Call.operands]; right; rw [← hps] at hp; exact Array.mem_toList_iff.1 hp
  have hrun : (execOp a.eval o).run P w = .ok (.enter f (ps.map a.eval).toArray) w := by
    have hargs : args.map a.eval = (ps.map a.eval).toArray := by rw [← hps]; cases args; simp
    simp only [execOp, ho, resolve, hargs, show a.eval (.func f) = .func (.func f) #[] #[] from rfl];simp [Deferred.ofValue, invoke, hc]
  unfold Oper.wp;rw [hrun, Oper.upon_enter];refine (hs R w _ hcore.rle hd (fun q hq => hcore.owned q (AL1 _ hq)) (AA0 hcore).sep).mono fun e w' ⟨x, v, R', e0, e1, e2, e3⟩ => ?_;subst e1;exact ⟨v, R', rfl, AD7 (Aw7 hcore e3) hperm.symm, AX2 hcore.rle e3.rold, e2⟩
end
section
variable {P : Program} {G : Nat → Prop} {n : Nat} {own : List Own} {o : Oper}
def Bh2 (sel : List Own) : Own → Own → Prop
  | .box b t cs, .box b' t' cs' => b = b' ∧ t = t' ∧ AH5 sel cs cs'
  | .arr v t sz es, .arr v' t' sz' es' => v = v' ∧ t = t' ∧ sz = sz' ∧ BE4 sel es es'
  | .frz b t cs, .frz b' t' cs' => b = b' ∧ t = t' ∧ AH5 sel cs cs'
  | .tab T, .tab T' => T = T'
  | .obj b D, .obj b' D' => b = b' ∧ D = D'
  | _, _ => False
def BK6 (sel own own' : List Own) : Prop := own.length = own'.length ∧ ∀ (i : Nat) (q q' : Own), own[i]? = some q → own'[i]? = some q' → Bh2 sel q q'
theorem BN2 {sel : List Own} : BK6 sel [] [] := ⟨rfl, fun i q q' h => by simp at h⟩
theorem BX6 {sel a b : List Own} {q q' : Own} (h : Bh2 sel q q') (k : BK6 sel a b) : BK6 sel (q :: a) (q' :: b) := ⟨by simp [k.1], fun i x y hx hy => by
  cases i with
  | zero => simp at hx hy; subst hx; subst hy; exact h
  | succ i => exact k.2 i x y AT1 BC9⟩
theorem oc_blk {sel : List Own} {q q' : Own} (h : Bh2 sel q q') : Own.blk q = Own.blk q' := by
  cases q <;> cases q' <;> unfold Bh2 at h <;> first | exact h.elim | skip
  · exact E5 some h.1
  · exact E5 Value.ownBlock h.1
  · exact E5 some h.1
  · rfl
  · exact E5 some h.1
theorem oc_map {sel a b : List Own} (h : BK6 sel a b) : a.map Own.blk = b.map Own.blk := by
  refine List.ext_getElem? fun i => ?_;rw [Z5, Z5]
  cases ha : a[i]? with
  | none =>
    have : b[i]? = none := by rw [List.getElem?_eq_none_iff] at ha ⊢; rw [← h.1]; exact ha
    rw [this]
  | some q =>
    have hi : i < b.length := by rw [← h.1]; exact (G2.1 ha).1
    rw [P2 hi];exact E5 some (oc_blk (h.2 i q _ ha (P2 hi)))
theorem oc_fm {sel a b : List Own} (h : BK6 sel a b) : a.filterMap Own.blk = b.filterMap Own.blk := by
  have := E5 (List.filterMap id) (oc_map h)
  rwa [List.filterMap_map, List.filterMap_map] at this
theorem Bl8 {sel : List Own} {xs ys : List AV} {w0 : World} {R0 R : H2} {w : World} {vs : List Value} (hc : U0 G w0 R0 sel R w) (h : n7 R vs xs) (k : AH5 sel xs ys) : n7 (AH4 sel w R) vs ys :=
  ⟨h.1.trans k.1, fun i v y hv hy => by
    have hi : i < xs.length := by rw [k.1]; exact (G2.1 hy).1
    have hx := P2 hi;obtain ⟨h1, h2⟩ := h.2 i v _ hv hx;exact ⟨k.2 i _ y hx hy G w0 R0 R w v hc h1, h2⟩⟩
theorem Bd7 {sel rest rest' : List Own} {w0 : World} {R0 R : H2} {w : World} (h : U0 G w0 R0 (sel ++ rest) R w) (hG : ∀ b, G b → b ∈ rest.filterMap Own.blk) (hl : BK6 sel rest rest') : U0 G w0 R0 rest' (AH4 sel w R) w := by
  have hb := Bd6 h hG;have hs := AA0 h;refine ⟨hb.os, hb.tape, hb.output, hb.size, hb.block, hb.rle, hb.rold, fun q' hq' => ?_, fun q' hq' b hqb => ?_, ?_⟩
  · obtain ⟨i, hi⟩ := i7 hq'
    have hir : i < rest.length := by rw [hl.1]; exact (G2.1 hi).1
    have hr := P2 hir;have hm := C2 hr;have hoc := hl.2 i _ q' hr hi;have k1 := hb.owned _ hm;have k2 := h.owned _ (AD3 _ hm)
    revert hoc k1 k2
    generalize rest[i] = q
    intro hoc k1 k2
    cases q <;> cases q' <;> unfold Bh2 at hoc <;> first | exact hoc.elim | skip
    · obtain ⟨rfl, rfl, hc⟩ := hoc
      obtain ⟨_, vs, hv, hd⟩ := k2;exact ⟨k1.1, vs, hv, Bl8 hs hd hc⟩
    · obtain ⟨rfl, rfl, rfl, hc⟩ := hoc
      obtain ⟨_, hlen, xs, hx, hd⟩ := k2;refine ⟨k1.1, fun e he => ?_, xs, ?_, Bl8 hs hd (CR1 hc)⟩
      · obtain ⟨j, hj⟩ := i7 he
        have hje := P2 (show j < _ from hc.1.symm ▸ (G2.1 hj).1);rw [← (hc.2 j _ e hje hj).1];exact hlen _ (C2 hje)
      · rw [← hc.1]; exact hx
    · obtain ⟨rfl, rfl, hc⟩ := hoc
      obtain ⟨_, vs, hv, hd⟩ := k2;exact ⟨k1.1, vs, hv, Bl8 hs hd hc⟩
    · exact hoc ▸ k1
    · obtain ⟨rfl, rfl⟩ := hoc
      exact ⟨k1.1, k2.2⟩
  · have hm : (some b) ∈ rest'.map Own.blk := m1.2 ⟨q', hq', hqb⟩
    rw [← oc_map hl] at hm;obtain ⟨q, hq, hqb2⟩ := m1.1 hm;exact hb.fresh q hq b hqb2
  · rw [← oc_fm hl]; exact hb.sep
theorem AP5 {α β : Type} {f : FuncId} {xs : List AV} {inw : List Own} {ok : α → Prop} {O : α → List Own} {V : α → AV} {ok' : β → Prop} {O' : β → List Own} {V' : β → AV} (g : α → β) (S rest : α → List Own) (hs : K8 P f xs inw ok O V)
    (hok : ∀ a, ok a → ok' (g a)) (hV : ∀ a, ok a → AS5 (S a) (V a) (V' (g a))) (hp : ∀ a, ok a → (O a).Perm (S a ++ rest a)) (hG : ∀ a, ok a → ∀ b, AV4 inw b → b ∈ (rest a).filterMap Own.blk) (hl : ∀ a, ok a → BK6 (S a) (rest a) (O' (g a))) : K8 P f xs inw ok' O' V' := fun R w vs hr hd ho hn =>
  (hs R w vs hr hd ho hn).mono fun e w' ⟨a, v, R', h0, h1, h2, h3⟩ => by
    have hc := AD7 h3 (hp a h0);exact ⟨g a, v, AH4 (S a) w' R', hok a h0, h1, hV a h0 _ _ _ R' w' v (AA0 hc) h2, Bd7 hc (hG a h0) (hl a h0)⟩
theorem DE3 {sel : List Own} (q : Own) : Bh2 sel q q := by
  cases q with
  | box b t cs => exact ⟨rfl, rfl, AI4⟩
  | arr v t sz es => exact ⟨rfl, rfl, rfl, F6⟩
  | frz b t cs => exact ⟨rfl, rfl, AI4⟩
  | tab T => exact rfl
  | obj b D => exact ⟨rfl, rfl⟩
theorem oc_set {sel l : List Own} {i : Nat} {q q' : Own} (hi : l[i]? = some q) (hc : Bh2 sel q q') : BK6 sel l (l.set i q') := ⟨by simp, fun j x y hx hy => by
  by_cases h : i = j
  · subst h
    rw [AZ9 (G2.1 hi).1] at hy;rw [hi] at hx;injection hx with hx; injection hy with hy; subst hx; subst hy; exact hc
  · rw [Aj7 h, hx] at hy
    injection hy with hy; subst hy; exact DE3 _⟩
theorem AV3 {env : List (Nat × AV)} {q : Own} (k i : Nat) (q' : Own) (hi : (own.take k)[i]? = some q) (hc : Bh2 (own.drop k) q q') (hG : ∀ b, G b → b ∈ (own.take k).filterMap Own.blk) : Le G n ⟨own, env⟩ ⟨(own.take k).set i q', env⟩ := fun w0 R0 R a w ⟨h1, h2, h3⟩ => by
  have h9 := AO2 (l₁ := own.drop k) (l₂ := own.take k);rw [Ao8] at h9;have hp : U0 G w0 R0 (own.drop k ++ own.take k) R w := AD7 h1 h9.symm;exact ⟨AH4 (own.drop k) w R, AO8 (AA0 hp), Bd7 hp hG (oc_set hi hc), fun t z hz => z.mono (AO8 (AA0 hp)) (h2 t z hz), h3⟩
theorem Ag2 {env : List (Nat × AV)} {sel rest : List Own} {q : Own} (is : List Nat) (i : Nat) (q' : Own) (hp : pick own is = (sel, rest)) (hi : rest[i]? = some q) (hc : Bh2 sel q q') (hG : ∀ b, G b → b ∈ rest.filterMap Own.blk) : Le G n ⟨own, env⟩ ⟨rest.set i q', env⟩ := fun w0 R0 R a w ⟨h1, h2, h3⟩ => by
  have hk := Ae7 h1 hp;exact ⟨AH4 sel w R, AO8 (AA0 hk), Bd7 hk hG (oc_set hi hc), fun t z hz => z.mono (AO8 (AA0 hk)) (h2 t z hz), h3⟩
section
variable {T X : Type} {ocs : T → X → List AV} {cs : T → List AV} {ow : T → X → List Own}
theorem Ae9 {own : List Own} {l : List T} {xs : List X} (hlc : ∀ p x, (∀ o ∈ ow p x, o ∈ own) → AH5 own (ocs p x) (cs p)) (hlen : xs.length = l.length) (hm : ∀ o ∈ nin ow l xs, o ∈ own) : BE4 own (J9 ocs l xs) (l.map cs) := by
  refine ⟨by rw [U3 hlen, A7], fun j a b ha hb => ?_⟩;rw [Z5] at hb
  cases hp : l[j]? with
  | none => rw [hp] at hb; cases hb
  | some p =>
    rw [hp] at hb;have hj := (G2.1 hp).1;obtain ⟨x, hx⟩ : ∃ x, xs[j]? = some x := ⟨_, P2 qz8⟩;rw [X6 hp hx] at ha;injection ha with ha; injection hb with hb; subst ha; subst hb
    exact hlc p x fun o ho => hm o (Bt0 hp hx o ho)
end
end
section
variable {P : Program} {G : Nat → Prop} {n : Nat} {own : List Own} {o : Oper}
end
end Go.AV
namespace Go.AV
open Go.RowKit (Below)
section
variable {P : Program} {G : Nat → Prop} {n : Nat} {own : List Own} {o : Oper} {E : O8}
theorem w_tlen {t e : TypeId} {p : Operand} {v : Value} {sz lo : Nat} {es : List (List AV)} (i : Nat) (ho : o.op = .call { callee := .builtin .len, args := #[p], argTypes := #[t] }) (ht : P.underlying t = some (.slice e)) (hp : Ev E p (AV.is (Ap0 lo sz v))) (hi : own[i]? = some (.arr v e sz es)) : OpW P G n own o E (AV.int ((es.length - lo : Nat) : Int)) := AL6 fun w0 R0 R a w hcore he => by
  have h1 : a.eval p = _ := H1 hp Ap5 he;obtain ⟨_, _, xs, hown, _⟩ := hcore.owned _ (C2 hi);obtain ⟨oa, c, rfl, _⟩ := BM9 hown;have hel : P.elem t = e := by simp [Program.elem, ht]
  have h2 := fun (b : Option Addr) => run_len_slice (P := P) w t o.type b (es.length - lo) (c - lo) AQ2;exact ⟨.int .i64 (es.length - lo : Nat), by simp only [execOp, ho, resolve, invoke, builtin, AP8, j4, List.map_nil, h1, Ap0, sliced, h2, Sem.run_bind, Sem.run_pure, Result.andThen_ok, goInt], rfl⟩
theorem Cm5 {t e : TypeId} {p q : Operand} {v : Value} {sz lo : Nat} {es : List (List AV)} {k : Int} (i : Nat) (ho : o.op = .indexAddr t p q) (ht : P.underlying t = some (.slice e)) (hsz : ∀ w, (sizeOf e).run P w = .ok sz w) (hp : Ev E p (AV.is (Ap0 lo sz v))) (hi : own[i]? = some (.arr v e sz es)) (hq : Ev E q (AV.int k)) (h0 : 0 ≤ k) (hk : lo + k < es.length) :
    OpW P G n own o E (AV.is (AE9 v ((lo + k.toNat) * sz))) := AL6 fun w0 R0 R a w hcore he => by
  have h1 : a.eval p = _ := H1 hp O7 he;have h2 : a.eval q = .int .i64 k := H1 hq O7 he;obtain ⟨_, _, xs, hown, _⟩ := hcore.owned _ (C2 hi);rcases hown.2 with ⟨rfl, hz⟩ | ⟨g, cap, cur, rfl, _, _, hn, _⟩
  · rw [hz] at hk; simp at hk; omega
  · have hel : P.elem t = e := by simp [Program.elem, ht]
    have hne : ¬ cap = lo := by omega
    have hk2 : k < ((es.length - lo : Nat) : Int) := by omega
    have h3 := run_indexAt_slice (P := P) w t ((⟨g, 0, none⟩ : Addr).add (lo * sz)) (es.length - lo) (cap - lo) .i64 k AQ2;rw [D3 ⟨h0, hk2⟩, hel, hsz, Result.andThen_ok] at h3;have e : (lo + k.toNat) * sz = lo * sz + k.toNat * sz := Nat.add_mul _ _ _;refine ⟨.pointer (some (Addr.add ((⟨g, 0, none⟩ : Addr).add (lo * sz)) (k.toNat * sz))), by simp only [execOp, ho, h1, h2, Ap0, sliced, C5 hne, AH2, h3, Sem.run_bind, Sem.run_pure, Result.andThen_ok], ?_⟩;rw [e];show Value.pointer _ = Value.pointer (some (Addr.add ⟨g, 0, none⟩ (lo * sz + k.toNat * sz)))
    simp only [addr_add, Nat.zero_add]
def j0 (own : List Own) (E : O8) (q : Operand) (sz : Nat) (fs : List (List AV)) : Prop :=
  ∀ (G : Nat → Prop) (w0 : World) (R0 R : H2) (a : Act) (w : World), U0 G w0 R0 own R w → (∀ t, q = .tmp t → ∀ y, E t = some y → y.den R (a.tmps.getD t undef)) →
    (∀ f ∈ fs, f.length = sz) ∧ ∃ oa cap vs, a.eval q = .slice oa fs.length cap ∧ (fs ≠ [] → ∃ ad, oa = some ad ∧ (∀ j u, vs[j]? = some u → w.cell? (ad.add j) = some u) ∧ n7 R vs fs.flatten)
theorem Ai1 {ops : Array Oper} {t e : TypeId} {p q : Operand} {sz by' : Nat} {inf : TypeInfo} {z : Value} {v : Value} {es fs : List (List AV)} (i : Nat) (ho : o.op = .call { callee := .builtin .append, args := #[p, q], argTypes := #[t, t] }) (ht : P.underlying t = some (.slice e)) (hinf : P.info? e = some inf) (hz : inf.zero = some z) (hsz : inf.size = sz) (hby : inf.bytes = by') (hzs : z.cells.size = sz) (hpos : Nat.ble 1 sz = true) (hpos2 : Nat.ble 1 by' = true) (hp : Ev E p (AV.is v)) (hq : j0 own E q sz fs) (hi : own[i]? = some (.arr v e sz es))
    (hlen : (es.length + fs.length) * by' ≤ 140737488355328) : OpE P G n own ops o E (fun _ : Value => True) (fun v' => own.set i (.arr v' e sz (es ++ fs))) (fun v' => AV.is v') :=
  fun w0 R0 R a w h1 h3 h2 => by
    have e1 : a.eval p = v := BN1 (ops := ops) hp Ap5 h2;obtain ⟨hu, oa, c, ns, e2, hcell⟩ := hq G w0 R0 R a w h1 (fun t ht y hy => h2 t (An6 (by subst ht; exact List.mem_filterMap.2 ⟨.tmp t, by simp [ho, Op.operands, Call.operands], rfl⟩)) y hy);obtain ⟨hR, hue, xs, hown, hdc⟩ := h1.owned _ (C2 hi);have hb1 := AR4 hpos;have hb2 := AR4 hpos2;have hsum : es.length + fs.length ≤ 140737488355328 := L4 (Nat.le_mul_of_pos_right _ hb2) hlen;have hufs : ∀ x ∈ es ++ fs, x.length = sz := fun x hx => by
      rcases u6.1 hx with h | h
      · exact hue x h
      · exact hu x h
    by_cases hfs : fs = []
    · subst hfs
      have hrun : ∃ v', (Builtin.append_ #[t, t] o.type #[v, a.eval q]).run P w = .ok v' w ∧ v' = v := by
        refine ⟨v, ?_, rfl⟩;rw [e2];rcases hown.2 with ⟨rfl, hz0⟩ | ⟨g, cap, cur, rfl, _, _, hnc, _⟩
        · cases oa with
          | none => simp [Builtin.append_, run_underlying ht, sizeOf, typeInfo, hinf, Builtin.lenOf, Builtin.firstCells, hz0]
          | some ad => simp [Builtin.append_, run_underlying ht, sizeOf, typeInfo, hinf, Builtin.lenOf, Builtin.firstCells, loadCells, loadCellsFrom, hz0]
        · cases oa with
          | none => simp [Builtin.append_, run_underlying ht, sizeOf, typeInfo, hinf, Builtin.lenOf, Builtin.firstCells, hnc, storeCells]
          | some ad => simp [Builtin.append_, run_underlying ht, sizeOf, typeInfo, hinf, Builtin.lenOf, Builtin.firstCells, loadCells, loadCellsFrom, hnc, storeCells]
      obtain ⟨v', hr, rfl⟩ := hrun;have hex : (execOp a.eval o).run P w = .ok (.value v') w := by
        simp only [execOp, ho, resolve, invoke, builtin, Sem.run_bind, Sem.run_pure, Result.andThen_ok, AP8, j4, List.map_nil, e1, hr]
      unfold Oper.wp;rw [hex, Oper.upon_value];have hset : own.set i (.arr v' e sz (es ++ [])) = own := by
        rw [S0];obtain ⟨hlt, he⟩ := G2.1 hi;rw [← he]; exact List.set_getElem_self hlt
      exact ⟨v', v', R, trivial, rfl, by show U0 G w0 R0 (own.set i (.arr v' e sz (es ++ []))) R w; rw [hset]; exact h1, L6.refl _, rfl⟩
    · obtain ⟨ad, rfl, hn2, hn3⟩ := hcell hfs
      have hn1 : ns.length = fs.flatten.length := hn3.1;have hnl : ns.length = fs.length * sz := by rw [hn1, AG6 hu]
      have hone : ∀ u ∈ ns, u.oneCell' = true := fun u hm => by
        obtain ⟨j, hj⟩ := i7 hm;have hjl : j < fs.flatten.length := by rw [← hn1]; exact (G2.1 hj).1
        exact (hn3.2 j u _ hj (P2 hjl)).2
      obtain ⟨v', w', hr, hown', hgr, _, hblk⟩ := run_append_own_at (P := P) w 0 t o.type e inf z sz by' ht hinf hz hsz hby hzs hb1 v es.length xs hown ad fs.length c ns hnl hn2 hone (by unfold maxLen; omega) hlen (E2 _);have hex : (execOp a.eval o).run P w = .ok (.value v') w' := by
        simp only [execOp, ho, resolve, invoke, builtin, Sem.run_bind, Sem.run_pure, Result.andThen_ok, AP8, j4, List.map_nil, e1, e2, hr]
      unfold Oper.wp;rw [hex, Oper.upon_value];refine ⟨v', v', R, trivial, rfl, Bl1 h1 hi (fun b hb => ?_) ⟨fun b hb => ?_, hufs, xs ++ ns, ?_, ?_⟩ hgr, L6.refl _, rfl⟩
      · simp only [Own.blk] at hb ⊢
        rcases hblk with h | h
        · exact .inl (by rw [← h]; exact hb)
        · rw [hb] at h; injection h with h; exact .inr h
      · rcases hblk with h | h
        · exact hR b (by rw [← h]; exact hb)
        · rw [hb] at h; injection h with h; subst h; exact Bc7 h1.rle
      · rw [G3]; exact hown'
      · rw [Ah3]; exact Ac6 hdc hn3
theorem Cm6 {ops : Array Oper} {rest : List Oper} {env : List (Nat × AV)} {K : H6 → Prop} {d : Nat} {α : Type} {ok : α → Prop} {W' : α → List Own} {V : α → AV} (hg : o.guard = none) (hd : o.dst = some d) (hn : Nat.blt d n = true) (h : OpE P G n own ops o (M8 · env) ok W' V) (k : ∀ a, ok a → Q5 P G n ops rest ⟨W' a, (d, V a) :: env⟩ K) : Q5 P G n ops (o :: rest) ⟨own, env⟩ K :=
  AE8 hg fun w0 R0 R a w ⟨h1, h2, h3, h4⟩ => Oper.wp_mono2 (fun a' w' ⟨x, v, R', e0, e1, e2, e3, e4⟩ => by
    subst e1;rw [hd];exact ⟨_, R', k x e0, e3, e2, AD5 h2 e3 At2 e4, by rw [size_put]; exact h3, by rw [Y5]; exact h4⟩) (fun _ _ _ h => h) (h w0 R0 R a w h1 h3 fun t _ y hy => h2 t y hy)
theorem CX7 {q : Operand} {sz : Nat} {fs : List (List AV)} {E : O8} {own : List Own} (hq : Ev E q (AV.list sz fs)) : j0 own E q sz fs := fun G w0 R0 R a w hc he => by
  obtain ⟨oa, c, e2, _, _, hu, hcell⟩ := hq R a he;refine ⟨hu, ?_⟩;by_cases hne : fs = []
  · exact ⟨oa, c, [], e2, fun h => absurd hne h⟩
  · obtain ⟨ad, rfl, hca⟩ := hcell hne
    obtain ⟨vs, _, h2, h3⟩ := DH6 (sz := sz) hc.rle hca;exact ⟨_, c, vs, e2, fun _ => ⟨ad, rfl, h2, h3⟩⟩
theorem L9 {ops : Array Oper} {t e : TypeId} {p q : Operand} {sz by' : Nat} {inf : TypeInfo} {z : Value} {v : Value} {es fs : List (List AV)} (i : Nat) (ho : o.op = .call { callee := .builtin .append, args := #[p, q], argTypes := #[t, t] }) (ht : P.underlying t = some (.slice e)) (hinf : P.info? e = some inf) (hz : inf.zero = some z) (hsz : inf.size = sz) (hby : inf.bytes = by') (hzs : z.cells.size = sz) (hpos : Nat.ble 1 sz = true) (hpos2 : Nat.ble 1 by' = true) (hp : Ev E p (AV.is v)) (hq : Ev E q (AV.list sz fs)) (hi : own[i]? = some (.arr v e sz es))
    (hlen : (es.length + fs.length) * by' ≤ 140737488355328) : OpE P G n own ops o E (fun _ : Value => True) (fun v' => own.set i (.arr v' e sz (es ++ fs))) (fun v' => AV.is v') :=
  Ai1 i ho ht hinf hz hsz hby hzs hpos hpos2 hp (CX7 hq) hi hlen
theorem G1 {ops : Array Oper} {rest : List Oper} {env : List (Nat × AV)} {K : H6 → Prop} {t e : TypeId} {p q : Operand} {d sz by' : Nat} {inf : TypeInfo} {z : Value} {v : Value} {es fs : List (List AV)} (i : Nat) (hg : o.guard = none) (ho : o.op = .call { callee := .builtin .append, args := #[p, q], argTypes := #[t, t] }) (hd : o.dst = some d) (hn : Nat.blt d n = true)
    (ht : P.underlying t = some (.slice e)) (hinf : P.info? e = some inf) (hz : inf.zero = some z) (hsz : inf.size = sz) (hby : inf.bytes = by') (hzs : z.cells.size = sz) (hpos : Nat.ble 1 sz = true) (hpos2 : Nat.ble 1 by' = true) (hp : Ev (M8 · env) p (AV.is v)) (hq : Ev (M8 · env) q (AV.list sz fs)) (hi : own[i]? = some (.arr v e sz es))
    (hlen : (es.length + fs.length) * by' ≤ 140737488355328) (k : ∀ v', Q5 P G n ops rest ⟨own.set i (.arr v' e sz (es ++ fs)), (d, AV.is v') :: env⟩ K) : Q5 P G n ops (o :: rest) ⟨own, env⟩ K :=
  Cm6 hg hd hn (Ai1 i ho ht hinf hz hsz hby hzs hpos hpos2 hp (CX7 hq) hi hlen) fun v' _ => k v'
theorem BI9 {ops : Array Oper} {rest : List Oper} {env : List (Nat × AV)} {K : H6 → Prop} {t e : TypeId} {p q : Operand} {d sz by' : Nat} {inf : TypeInfo} {z : Value} {v : Value} {es fs : List (List AV)} (i : Nat) (hg : o.guard = none) (ho : o.op = .call { callee := .builtin .append, args := #[p, q], argTypes := #[t, t] }) (hd : o.dst = some d) (hn : Nat.blt d n = true)
    (ht : P.underlying t = some (.slice e)) (hinf : P.info? e = some inf) (hz : inf.zero = some z) (hsz : inf.size = sz) (hby : inf.bytes = by') (hzs : z.cells.size = sz) (hpos : Nat.ble 1 sz = true) (hpos2 : Nat.ble 1 by' = true) (hp : Ev (M8 · env) p (AV.is v)) (hq : M7 own (M8 · env) q sz fs) (hne : fs ≠ []) (hi : own[i]? = some (.arr v e sz es))
    (hlen : (es.length + fs.length) * by' ≤ 140737488355328) (k : ∀ v', Q5 P G n ops rest ⟨own.set i (.arr v' e sz (es ++ fs)), (d, AV.is v') :: env⟩ K) : Q5 P G n ops (o :: rest) ⟨own, env⟩ K :=
  Cm6 hg hd hn (Ai1 i ho ht hinf hz hsz hby hzs hpos hpos2 hp (fun G w0 R0 R a w hc he => by
    obtain ⟨h1, h2⟩ := hq G w0 R0 R a w hc he;obtain ⟨ad, cap, vs, e1, e2⟩ := h2 hne;exact ⟨h1, some ad, cap, vs, e1, fun _ => ⟨ad, rfl, e2⟩⟩) hi hlen) fun v' _ => k v'
theorem opE_at {o : Oper} {ops : Array Oper} {E : O8} {α : Type} {ok : α → Prop} {V : α → AV} {W' : α → List Own} (m : Nat) (W2 : α → List Own) (hp : ∀ a, (W' a).Perm (W2 a)) (h : OpE P G n own ops o E ok W' V) : OpE P G n own ops o E ok W2 V := fun w0 R0 R a w h1 h2 h3 =>
  Oper.wp_mono2 (fun a' w' ⟨x, v, R', e0, e1, e2, e3, e4⟩ => ⟨x, v, R', e0, e1, AD7 e2 (hp x), e3, e4⟩) (fun _ _ _ h => h) (h w0 R0 R a w h1 h2 h3)
theorem An9 {ops : Array Oper} {rest : List Oper} {env : List (Nat × AV)} {K : H6 → Prop} {t e : TypeId} {d len sz : Nat} {z : Value} {ps : Array (Nat × Operand)} {asl : List (Nat × List AV)} {cs : List AV} {es : List (List AV)} (hg : o.guard = none) (ho : o.op = .buildSlice t len ps) (hd : o.dst = some d) (hn : Nat.blt d n = true) (ht : P.underlying t = some (.slice e)) (hsz : ∀ w, (sizeOf e).run P w = .ok sz w) (hz : ∀ w, (zeroValue e).run P w = .ok z w)
    (hl : Nat.ble (len * sz) 1000 = true) (hl2 : Nat.ble len 1000 = true) (hzs : z.cells.size = sz) (h1' : z.cells.toList.all Value.oneCell' = true) (hp : EvP (M8 · env) ps.toList asl) (hc : Ah4 (fun i => some (i * sz, sz)) ((List.range (len * sz)).map fun i => u7 (z.cells[i % z.cells.size]!)) asl = some cs) (hes : chunks sz len cs = es)
    (k : ∀ v', Q5 P G n ops rest ⟨.arr v' e sz es :: own, (d, AV.is v') :: env⟩ K) : Q5 P G n ops (o :: rest) ⟨own, env⟩ K :=
  Cm6 hg hd hn (opE_at 0 (fun v' => .arr v' e sz es :: own) (fun _ => AO2 (l₂ := [_])) (Aw9 ho ht hsz hz hl hl2 hzs h1' hp hc hes)) fun v' _ => k v'
theorem lt_tailm {α : Type} {f : α → List AV} {l : List α} {v : Value} {e : TypeId} {sz lo k : Nat} (hm : Own.arr v e sz (l.map f) ∈ own) (hlo : lo = k) (hk : k ≤ l.length) : AS5 own (AV.is (Ap0 lo sz v)) (AV.list sz ((l.drop k).map f)) := fun G w0 R0 R w u hc hu => by
  subst hlo
  cases (show u = Ap0 lo sz v from hu)
  obtain ⟨_, _, xs, hown, _⟩ := hc.owned _ hm;obtain ⟨oa, c, hv, hnc⟩ := BM9 hown;have h1 := K3 hm F6 G w0 R0 R w v hc rfl;obtain ⟨oa', c', e1, k1, k2, k3, k4⟩ := h1;subst e1;have h9 := Bc8 (R := AH4 own w R) (lo := lo) (hi := (l.map f).length) (es := l.map f) (oa := oa') rfl k1 k2 k3 k4 (by rw [A7]; exact hk) (N2 _);rw [AM2, ← List.map_drop] at h9;exact h9
end
end Go.AV
namespace Go.AV
section
variable {P : Program} {G : Nat → Prop} {n : Nat} {own : List Own} {env : List (Nat × AV)} {fn : Func}
theorem Bl9 {sel : List Own} {cs : List AV} {sz : Nat} (j : Nat) (h : cs[j]? = some AV.nils) : AH5 sel cs (cs.set j (AV.list sz [])) := ⟨by rw [Z1], fun i x y hx hy => by
  by_cases e : j = i
  · subst e
    rw [AZ9 (G2.1 h).1] at hy;rw [h] at hx;injection hx with hx; injection hy with hy; subst hx; subst hy
    exact Au8
  · rw [Aj7 e, hx] at hy
    injection hy with hy; subst hy; exact E4⟩
theorem CA7 {E : O8} {q : Operand} {v : Value} {e : TypeId} {sz : Nat} {es : List (List AV)} (i : Nat) (hi : own[i]? = some (.arr v e sz es)) (hq : Ev E q (AV.is v)) : j0 own E q sz es := fun G w0 R0 R a w hc he => by
  have e1 : a.eval q = _ := hq R a he;have hok := hc.owned _ (C2 hi);have hu := hok.2.1;refine ⟨hu, ?_⟩;obtain ⟨_, _, xs0, hown0, _⟩ := hok;rcases hown0.2 with ⟨h1, h2⟩ | ⟨g, cap, cur0, h1, _⟩
  · subst h1
    have h3 : es = [] := Ar9 h2;subst h3;exact ⟨none, 0, [], e1, fun h => absurd rfl h⟩
  · subst h1
    by_cases hne : es = []
    · subst hne; exact ⟨_, cap, [], e1, fun h => absurd rfl h⟩
    · have hsrc := Af9 (own := own) (E := E) (q := q) i hi hq
      obtain ⟨_, h7⟩ := hsrc G w0 R0 R a w hc he;obtain ⟨ad, c, vs, k1, k2, k3⟩ := h7 hne;exact ⟨_, c, vs, k1, fun _ => ⟨ad, rfl, k2, k3⟩⟩
theorem AZ2 {o : Oper} {ops : Array Oper} {E : O8} {α : Type} {ok : α → Prop} {W' : α → List Own} {V : α → AV} {sel rest : α → List Own} {Y : α → AV} (is : List Nat) (hp : ∀ a, pick (W' a) is = (sel a, rest a)) (hl : ∀ a, AS5 (sel a) (V a) (Y a)) (hG : ∀ a b, G b → b ∈ (rest a).filterMap Own.blk)
    (h : OpE P G n own ops o E ok W' V) : OpE P G n own ops o E ok rest Y := fun w0 R0 R a w h1 h2 h3 =>
  Oper.wp_mono2 (fun a' w' ⟨x, v, R', e0, e1, e2, e3, e4⟩ =>
    have hk := Ae7 e2 (hp x)
    ⟨x, v, AH4 (sel x) w' R', e0, e1, Bd6 hk (hG x), e3.trans (AO8 (AA0 hk)), hl x G w0 R0 R' w' v (AA0 hk) e4⟩) (fun _ _ _ h => h) (h w0 R0 R a w h1 h2 h3)
theorem AG9 (i j sz : Nat) {b : Nat} {t : TypeId} {cs : List AV} (hi : own[i]? = some (.box b t cs)) (hj : cs[j]? = some AV.nils) (hG : ∀ b, G b → b ∈ own.filterMap Own.blk) : Le G n ⟨own, env⟩ ⟨own.set i (.box b t (cs.set j (AV.list sz []))), env⟩ :=
  Ag2 [] i (.box b t (cs.set j (AV.list sz []))) rfl hi ⟨rfl, rfl, Bl9 j hj⟩ hG
theorem AC8 {α : Type} {ok : α → Prop} {O : α → List Own} {V : α → AV} (i j sz : Nat) {b : Nat} {t : TypeId} {cs : List AV} (hi : own[i]? = some (.box b t cs)) (hj : cs[j]? = some AV.nils) (hG : ∀ b, G b → b ∈ own.filterMap Own.blk)
    (k : I7 P G n fn ⟨own.set i (.box b t (cs.set j (AV.list sz []))), env⟩ ok O V) : I7 P G n fn ⟨own, env⟩ ok O V := fun w0 R0 R a w hs => by
  have hle : Le G n ⟨own, env⟩ ⟨own.set i (.box b t (cs.set j (AV.list sz []))), env⟩ := Ag2 [] i (.box b t (cs.set j (AV.list sz []))) rfl hi ⟨rfl, rfl, Bl9 j hj⟩ hG;obtain ⟨R1, h1, h2⟩ := hle w0 R0 R a w hs;obtain ⟨x, v, R2, g0, g1, g2, g3, g4⟩ := k w0 R0 R1 a w h2;exact ⟨x, v, R2, g0, g1, g2, h1.trans g3, g4⟩
theorem BU8 {y : AV} (i j sz : Nat) {b : Nat} {t : TypeId} {cs : List AV} (hi : own[i]? = some (.box b t cs)) (hj : cs[j]? = some AV.nils)
    (k : K7 P (fun _ => False) n fn ⟨own.set i (.box b t (cs.set j (AV.list sz []))), env⟩ y) : K7 P (fun _ => False) n fn ⟨own, env⟩ y := fun w0 R0 R a w hs => by
  have hle : Le (fun _ => False) n ⟨own, env⟩ ⟨own.set i (.box b t (cs.set j (AV.list sz []))), env⟩ := Ag2 [] i (.box b t (cs.set j (AV.list sz []))) rfl hi ⟨rfl, rfl, Bl9 j hj⟩ AU4;obtain ⟨R1, h1, h2⟩ := hle w0 R0 R a w hs;obtain ⟨v, R2, h3, h4, h5, h6⟩ := k w0 R0 R1 a w h2;exact ⟨v, R2, h3, h4, h1.trans h5, h6⟩
end
section
variable {P : Program} {G : Nat → Prop} {n : Nat} {own : List Own} {o : Oper} {E : O8}
@[reducible] def byteC (b : UInt8) : List AV := [AV.ik .u8 b.toNat]
theorem CG5 : ∀ (bs : List UInt8), (bs.map byteC).flatten = bs.map fun b => AV.ik .u8 b.toNat
  | [] => rfl
  | b :: bs => by rw [j4, Ac1, CG5 bs]; rfl
theorem DI2 {w : World} {oa : Option Addr} {c : Nat} {bs : List UInt8} {src dst e : TypeId} (hs : P.underlying src = some (.slice e)) (he : P.underlying e = some (.int .u8)) (hdst : P.underlying dst = some .string)
    (h : bs ≠ [] → ∃ a, oa = some a ∧ ∀ (j : Nat) (b : UInt8), bs[j]? = some b → w.cell? (a.add j) = some (.int .u8 b.toNat)) :
    (convert src dst (.slice oa bs.length c)).run P w = .ok (.string ⟨bs.toArray⟩) w := by
  cases oa with
  | none =>
    have hb : bs = [] := by
      cases bs with
      | nil => rfl
      | cons b t => obtain ⟨a, ha, _⟩ := h Y1; cases ha
    subst hb;exact Go.run_convert_bytes_nil (w := w) (P := P) src e hs he _ _ dst hdst
  | some a =>
    have hl : (loadCells a bs.length).run P w = .ok ((bs.map fun b => (b.toNat : Int)).map (Value.int .u8)).toArray w := by
      have := run_loadCells_list (P := P) (w := w) a ((bs.map fun b => (b.toNat : Int)).map (Value.int .u8)) (fun j v hj => by
        rw [Z5, Z5] at hj
        cases hb : bs[j]? with
        | none => rw [hb] at hj; cases hj
        | some b =>
          rw [hb] at hj;injection hj with hj; subst hj
          obtain ⟨a', ha, hc⟩ := h (by intro hn; rw [hn] at hb; simp at hb);injection ha with ha; subst ha
          exact hc j b hb)
      simpa using this
    rw [Go.run_convert_bytes_string w src dst e _ _ c hs he hdst, Go.run_bytesToString w a bs.length c _ hl, Go.foldl_push_bytes];refine E5 (fun b => Result.ok (Value.string b) w) ?_;refine ByteArray.ext ?_;apply Array.toList_inj.1
    simp [ByteArray.empty, ByteArray.emptyWithCapacity];show [] ++ bs.map (fun b => UInt8.ofNat (Int.toNat (b.toNat : Int))) = bs
    rw [AO1];conv => rhs; rw [← List.map_id bs]
    refine List.map_congr_left fun b _ => ?_;rw [AA4];simp
theorem DS2 {R : H2} {w : World} {v : Value} {bs : List UInt8} {src dst e : TypeId} (hr : RLe R w) (hd : (AV.list 1 (bs.map byteC)).den R v) (hs : P.underlying src = some (.slice e)) (he : P.underlying e = some (.int .u8)) (hdst : P.underlying dst = some .string) :
    (convert src dst v).run P w = .ok (.string ⟨bs.toArray⟩) w := by
  obtain ⟨oa, c, rfl, h1, h2, _, h4⟩ := hd;rw [A7];refine DI2 hs he hdst fun hn => ?_;obtain ⟨a, ha, hc⟩ := h4 (by intro hm; exact hn (List.map_eq_nil_iff.1 hm));refine ⟨a, ha, fun j b hb => ?_⟩;rw [CG5] at hc;obtain ⟨u, hu, hx, _⟩ := hc j (AV.ik .u8 b.toNat) (by rw [Z5, hb]; rfl);rw [Aw4 hr hu];exact E5 some hx
theorem DE4 {src dst e : TypeId} {p : Operand} {bs : List UInt8} (ho : o.op = .convert src dst p) (hs : P.underlying src = some (.slice e)) (he : P.underlying e = some (.int .u8)) (hd : P.underlying dst = some .string) (hp : Ev E p (AV.list 1 (bs.map byteC))) : OpW P G n own o E (AV.str bs) := P1 fun R a w hr hv => by
  have h1 := H1 hp O7 hv;exact ⟨.string ⟨bs.toArray⟩, by simp [execOp, ho, DS2 hr h1 hs he hd], rfl⟩
end
end Go.AV
namespace Go.AV
open Go.Proofs
class UnC (t : Nat) (x : outParam (Option TypeDesc)) : Prop where
  h : Tryz.prog.underlying t = x
class SzC (t : Nat) (x : outParam Nat) : Prop where
  h : ∀ w, (sizeOf t).run Tryz.prog w = .ok x w
class AgC (t : Nat) (x : outParam Bool) : Prop where
  h : ∀ w, (isAgg t).run Tryz.prog w = .ok x w
class ZvC (t : Nat) (x : outParam Value) : Prop where
  h : ∀ w, (zeroValue t).run Tryz.prog w = .ok x w
class TyC (t : Nat) (x : outParam TypeInfo) : Prop where
  h : Tryz.prog.types[t]? = some x
class CaC (f : Nat) : Prop where
  h : ∀ (a : Array Value) (w : World), (callFunc f a).run Tryz.prog w = .ok (.enter f a) w
class PlC (t : Nat) (x : outParam (Array (Nat × Nat))) : Prop where
  h : ∃ fs, Tryz.prog.underlying t = some (.struct fs) ∧ ∀ w, (fs.mapM (m := Sem) fun f => do pure (f.offset, ← sizeOf f.type)).run Tryz.prog w = .ok x w
theorem plL {t : Nat} {x : Array (Nat × Nat)} [u : PlC t x] : ∃ fs, Tryz.prog.underlying t = some (.struct fs) ∧ ∀ w, (fs.mapM (m := Sem) fun f => do pure (f.offset, ← sizeOf f.type)).run Tryz.prog w = .ok x w := u.h
theorem unL {t : Nat} {x : Option TypeDesc} [u : UnC t x] : Tryz.prog.underlying t = x := u.h
theorem szL {t x : Nat} [u : SzC t x] : ∀ w, (sizeOf t).run Tryz.prog w = .ok x w := u.h
theorem agL {t : Nat} {x : Bool} [u : AgC t x] : ∀ w, (isAgg t).run Tryz.prog w = .ok x w := u.h
theorem zvL {t : Nat} {x : Value} [u : ZvC t x] : ∀ w, (zeroValue t).run Tryz.prog w = .ok x w := u.h
instance : SzC 101 1 := ⟨AC9⟩
instance : AgC 139 false := ⟨Tryz.isAgg139⟩
instance : UnC 58 (some Tryz.t58.desc) := ⟨G9⟩
instance : ZvC 60 (Value.agg #[Value.int IntKind.i64 0, E8, E8, E8]) := ⟨Tryz.zeroValue60⟩
instance : UnC 9 (some Tryz.t9.desc) := ⟨O3⟩
instance : AgC 101 true := ⟨Tryz.isAgg101⟩
instance : AgC 5 false := ⟨Tryz.isAgg5⟩
instance : ZvC 53 (E8) := ⟨Tryz.zeroValue53⟩
instance : AgC 96 false := ⟨Tryz.isAgg96⟩
instance : SzC 55 10 := ⟨T5⟩
instance : UnC 55 (some Tryz.t54.desc) := ⟨M1⟩
instance : SzC 141 3 := ⟨L0⟩
instance : SzC 128 2 := ⟨Tryz.sizeOf128⟩
instance : UnC 183 (some Tryz.t183.desc) := ⟨y6⟩
instance : AgC 141 true := ⟨Tryz.isAgg141⟩
instance : UnC 320 (some Tryz.t320.desc) := ⟨V2⟩
instance : AgC 56 false := ⟨Tryz.isAgg56⟩
instance : AgC 24 false := ⟨Tryz.isAgg24⟩
instance : UnC 96 (some Tryz.t96.desc) := ⟨U5⟩
instance : UnC 60 (some Tryz.t59.desc) := ⟨AA9⟩
instance : UnC 29 (some Tryz.t29.desc) := ⟨N0⟩
instance : ZvC 56 (E8) := ⟨Tryz.zeroValue56⟩
instance : UnC 51 (some Tryz.t51.desc) := ⟨AC6⟩
instance : SzC 22 1 := ⟨Tryz.sizeOf22⟩
instance : ZvC 325 (Value.agg #[Value.int IntKind.i64 0, Value.string (ByteArray.mk #[]), Value.bool false]) := ⟨Tryz.zeroValue325⟩
instance : UnC 62 (some Tryz.t61.desc) := ⟨Tryz.underlying62⟩
instance : ZvC 82 (Value.agg #[Value.string (ByteArray.mk #[]), Value.string (ByteArray.mk #[]), Value.bool false]) := ⟨Tryz.zeroValue82⟩
instance : AgC 29 false := ⟨Tryz.isAgg29⟩
instance : AgC 62 true := ⟨AQ0⟩
instance : SzC 96 1 := ⟨AA5⟩
instance : ZvC 86 (Value.agg #[E8, Value.int IntKind.i64 0, Value.int IntKind.u64 0]) := ⟨Tryz.zeroValue86⟩
instance : UnC 86 (some Tryz.t85.desc) := ⟨Tryz.underlying86⟩
instance : ZvC 5 (Value.int IntKind.u8 0) := ⟨Tryz.zeroValue5⟩
instance : ZvC 3 (Value.int IntKind.i64 0) := ⟨Tryz.zeroValue3⟩
instance : UnC 25 (some Tryz.t25.desc) := ⟨F0⟩
instance : ZvC 25 (E8) := ⟨Tryz.zeroValue25⟩
instance : SzC 139 1 := ⟨Tryz.sizeOf139⟩
instance : ZvC 128 (Value.agg #[Value.pointer none, E8]) := ⟨Tryz.zeroValue128⟩
instance : UnC 28 (some Tryz.t28.desc) := ⟨H7⟩
instance : SzC 256 5 := ⟨N8⟩
instance : UnC 325 (some Tryz.t324.desc) := ⟨Tryz.underlying325⟩
instance : AgC 93 true := ⟨P5⟩
instance : ZvC 190 (Value.agg #[Value.int IntKind.i64 0, Value.int IntKind.i64 0, Value.int IntKind.i64 0, Value.int IntKind.i64 0, E8, E8, Value.bool false]) := ⟨Tryz.zeroValue190⟩
instance : SzC 25 1 := ⟨AI8⟩
instance : SzC 5 1 := ⟨Tryz.sizeOf5⟩
instance : UnC 186 (some Tryz.t186.desc) := ⟨Tryz.underlying186⟩
instance : UnC 322 (some Tryz.t321.desc) := ⟨V4⟩
instance : UnC 139 (some Tryz.t139.desc) := ⟨P8⟩
instance : AgC 42 false := ⟨AD6⟩
instance : UnC 276 (some Tryz.t275.desc) := ⟨Tryz.underlying276⟩
instance : SzC 84 1 := ⟨Tryz.sizeOf84⟩
instance : UnC 43 (some Tryz.t43.desc) := ⟨F3⟩
instance : UnC 245 (some Tryz.t244.desc) := ⟨Tryz.underlying245⟩
instance : AgC 325 true := ⟨Tryz.isAgg325⟩
instance : AgC 58 false := ⟨Tryz.isAgg58⟩
instance : SzC 62 3 := ⟨O0⟩
instance : SzC 322 2 := ⟨K0⟩
instance : ZvC 141 (Value.agg #[Value.bool false, E8, Value.int IntKind.i64 0]) := ⟨Tryz.zeroValue141⟩
instance : UnC 56 (some Tryz.t56.desc) := ⟨J2⟩
instance : ZvC 9 (Value.string (ByteArray.mk #[])) := ⟨Tryz.zeroValue9⟩
instance : UnC 22 (some Tryz.t22.desc) := ⟨AF9⟩
instance : AgC 22 false := ⟨Tryz.isAgg22⟩
instance : AgC 53 false := ⟨Tryz.isAgg53⟩
instance : SzC 28 1 := ⟨Ad1⟩
instance : UnC 141 (some Tryz.t140.desc) := ⟨AD8⟩
instance : AgC 30 false := ⟨Tryz.isAgg30⟩
instance : SzC 325 3 := ⟨y9⟩
instance : SzC 27 1 := ⟨Tryz.sizeOf27⟩
instance : SzC 146 3 := ⟨q9⟩
instance : AgC 60 true := ⟨Q1⟩
instance : ZvC 228 (Value.agg #[Value.int IntKind.i64 0, Value.int IntKind.i64 0, Value.int IntKind.i64 0]) := ⟨Tryz.zeroValue228⟩
instance : UnC 24 (some Tryz.t24.desc) := ⟨T1⟩
instance : AgC 73 true := ⟨Tryz.isAgg73⟩
instance : AgC 32 true := ⟨S9⟩
instance : SzC 71 3 := ⟨S2⟩
instance : AgC 45 true := ⟨Tryz.isAgg45⟩
instance : SzC 3 1 := ⟨F2⟩
instance : ZvC 4 (Value.bool false) := ⟨Tryz.zeroValue4⟩
instance : UnC 93 (some Tryz.t92.desc) := ⟨Z0⟩
instance : SzC 4 1 := ⟨T7⟩
instance : UnC 42 (some Tryz.t42.desc) := ⟨I8⟩
instance : AgC 82 true := ⟨Tryz.isAgg82⟩
instance : ZvC 73 (Value.agg #[Value.int IntKind.i64 0, E8, E8, Value.int IntKind.i64 0, Value.int IntKind.i64 0, Value.int IntKind.i64 0]) := ⟨Tryz.zeroValue73⟩
instance : AgC 84 false := ⟨Tryz.isAgg84⟩
instance : AgC 322 true := ⟨Tryz.isAgg322⟩
instance : SzC 53 1 := ⟨Ad2⟩
instance : AgC 190 true := ⟨Ad3⟩
instance : UnC 256 (some Tryz.t255.desc) := ⟨Tryz.underlying256⟩
instance : AgC 91 false := ⟨Tryz.isAgg91⟩
instance : AgC 27 false := ⟨Tryz.isAgg27⟩
instance : UnC 222 (some Tryz.t222.desc) := ⟨AN2⟩
instance : AgC 112 true := ⟨AG0⟩
instance : AgC 256 true := ⟨Ad4⟩
instance : SzC 9 1 := ⟨K1⟩
instance : SzC 30 1 := ⟨Tryz.sizeOf30⟩
instance : UnC 82 (some Tryz.t81.desc) := ⟨Tryz.underlying82⟩
instance : AgC 55 true := ⟨Tryz.isAgg55⟩
instance : ZvC 146 (Value.agg #[Value.string (ByteArray.mk #[]), Value.int IntKind.i64 0, Value.bool false]) := ⟨Tryz.zeroValue146⟩
instance : SzC 56 1 := ⟨AV5⟩
instance : SzC 228 3 := ⟨z6⟩
instance : SzC 93 3 := ⟨E7⟩
instance : UnC 34 (some Tryz.t34.desc) := ⟨N6⟩
instance : UnC 73 (some Tryz.t72.desc) := ⟨Q3⟩
instance : ZvC 32 (Value.agg #[Value.int IntKind.i64 0, Value.int IntKind.i64 0, E8, E8, E8, E8, E8, E8, E8]) := ⟨Tryz.zeroValue32⟩
instance : AgC 4 false := ⟨AE5⟩
instance : UnC 146 (some Tryz.t145.desc) := ⟨Tryz.underlying146⟩
instance : SzC 58 1 := ⟨AM3⟩
instance : UnC 192 (some Tryz.t191.desc) := ⟨Tryz.underlying192⟩
instance : SzC 60 4 := ⟨M2⟩
instance : UnC 112 (some Tryz.t111.desc) := ⟨Tryz.underlying112⟩
instance : ZvC 245 (Value.agg #[Value.int IntKind.i64 0, Value.int IntKind.i64 0, E8, E8, E8, E8, E8, E8, E8]) := ⟨Tryz.zeroValue245⟩
instance : AgC 192 true := ⟨Tryz.isAgg192⟩
instance : SzC 29 1 := ⟨Ad5⟩
instance : ZvC 45 (Value.agg #[Value.int IntKind.i64 0, Value.int IntKind.i64 0, Value.int IntKind.i64 0, Value.bool false, Value.bool false, Value.int IntKind.i64 0, E8, E8]) := ⟨Tryz.zeroValue45⟩
instance : SzC 42 1 := ⟨S3⟩
instance : UnC 30 (some Tryz.t30.desc) := ⟨r6⟩
instance : SzC 276 2 := ⟨Tryz.sizeOf276⟩
instance : UnC 57 (some Tryz.t57.desc) := ⟨D6⟩
instance : AgC 26 false := ⟨Tryz.isAgg26⟩
instance : ZvC 93 (Value.agg #[E8, Value.int IntKind.i64 0, Value.int IntKind.i64 0]) := ⟨Tryz.zeroValue93⟩
instance : ZvC 71 (Value.agg #[Value.string (ByteArray.mk #[]), Value.string (ByteArray.mk #[]), Value.bool false]) := ⟨Tryz.zeroValue71⟩
instance : UnC 32 (some Tryz.t31.desc) := ⟨X4⟩
instance : AgC 57 false := ⟨Tryz.isAgg57⟩
instance : ZvC 112 (Value.agg #[Value.int IntKind.i64 0, Value.string (ByteArray.mk #[]), Value.string (ByteArray.mk #[]), Value.int IntKind.i64 0]) := ⟨Tryz.zeroValue112⟩
instance : AgC 43 false := ⟨Tryz.isAgg43⟩
instance : SzC 24 1 := ⟨Tryz.sizeOf24⟩
instance : AgC 320 false := ⟨Tryz.isAgg320⟩
instance : SzC 43 1 := ⟨Ad6⟩
instance : UnC 128 (some Tryz.t127.desc) := ⟨Tryz.underlying128⟩
instance : ZvC 322 (Value.agg #[Value.string (ByteArray.mk #[]), E8]) := ⟨Tryz.zeroValue322⟩
instance : ZvC 256 (Value.agg #[Value.int IntKind.i64 0, Value.int IntKind.i64 0, Value.int IntKind.i64 0, E8, E8]) := ⟨Tryz.zeroValue256⟩
instance : AgC 71 true := ⟨Tryz.isAgg71⟩
instance : UnC 53 (some Tryz.t53.desc) := ⟨U6⟩
instance : SzC 192 8 := ⟨X2⟩
instance : UnC 71 (some Tryz.t70.desc) := ⟨Tryz.underlying71⟩
instance : ZvC 276 (Value.agg #[Value.int IntKind.i64 0, Value.int IntKind.i64 0]) := ⟨Tryz.zeroValue276⟩
instance : AgC 228 true := ⟨AG1⟩
instance : UnC 27 (some Tryz.t27.desc) := ⟨U7⟩
instance : ZvC 55 (Value.agg #[E8, E8, E8, Value.int IntKind.i64 0, Value.int IntKind.i64 0, Value.bool false, Value.int IntKind.i64 0, Value.bool false, Value.bool false, Value.bool false]) := ⟨Tryz.zeroValue55⟩
instance : SzC 73 6 := ⟨AQ9⟩
instance : UnC 26 (some Tryz.t26.desc) := ⟨H8⟩
instance : AgC 146 true := ⟨Tryz.isAgg146⟩
instance : ZvC 101 (Value.agg #[Value.int IntKind.i64 0]) := ⟨Tryz.zeroValue101⟩
instance : SzC 91 1 := ⟨Ad7⟩
instance : UnC 223 (some Tryz.t223.desc) := ⟨Tryz.underlying223⟩
instance : UnC 101 (some Tryz.t100.desc) := ⟨Tryz.underlying101⟩
instance : AgC 9 false := ⟨AB8⟩
instance : AgC 28 false := ⟨Tryz.isAgg28⟩
instance : SzC 112 4 := ⟨Y7⟩
instance : SzC 26 1 := ⟨Tryz.sizeOf26⟩
instance : AgC 25 false := ⟨Tryz.isAgg25⟩
instance : SzC 57 1 := ⟨Tryz.sizeOf57⟩
instance : SzC 82 3 := ⟨K9⟩
instance : SzC 45 8 := ⟨V7⟩
instance : SzC 320 1 := ⟨z7⟩
instance : ZvC 96 (E8) := ⟨Tryz.zeroValue96⟩
instance : UnC 228 (some Tryz.t227.desc) := ⟨Tryz.underlying228⟩
instance : ZvC 192 (Value.agg #[Value.int IntKind.i64 0, Value.int IntKind.i64 0, Value.int IntKind.i64 0, Value.int IntKind.i64 0, Value.int IntKind.i64 0, E8, E8, Value.bool false]) := ⟨Tryz.zeroValue192⟩
instance : UnC 190 (some Tryz.t189.desc) := ⟨Tryz.underlying190⟩
instance : UnC 91 (some Tryz.t91.desc) := ⟨I0⟩
instance : UnC 45 (some Tryz.t44.desc) := ⟨r7⟩
instance : UnC 196 (some Tryz.t196.desc) := ⟨AN3⟩
instance : SzC 32 9 := ⟨M3⟩
instance : ZvC 62 (Value.agg #[Value.int IntKind.i64 0, Value.bool false, Value.int IntKind.i64 0]) := ⟨Tryz.zeroValue62⟩
instance : AgC 3 false := ⟨Q4⟩
instance : SzC 190 7 := ⟨AJ7⟩
instance : PlC 32 #[(0, 1), (1, 1), (2, 1), (3, 1), (4, 1), (5, 1), (6, 1), (7, 1), (8, 1)] := ⟨_, X4, fun w => by kernel_rfl⟩
instance : PlC 45 #[(0, 1), (1, 1), (2, 1), (3, 1), (4, 1), (5, 1), (6, 1), (7, 1)] := ⟨_, r7, fun w => by kernel_rfl⟩
instance : PlC 60 #[(0, 1), (1, 1), (2, 1), (3, 1)] := ⟨_, AA9, fun w => by kernel_rfl⟩
instance : PlC 62 #[(0, 1), (1, 1), (2, 1)] := ⟨_, Tryz.underlying62, fun w => by kernel_rfl⟩
instance : PlC 71 #[(0, 1), (1, 1), (2, 1)] := ⟨_, Tryz.underlying71, fun w => by kernel_rfl⟩
instance : PlC 73 #[(0, 1), (1, 1), (2, 1), (3, 1), (4, 1), (5, 1)] := ⟨_, Q3, fun w => by kernel_rfl⟩
instance : PlC 82 #[(0, 1), (1, 1), (2, 1)] := ⟨_, Tryz.underlying82, fun w => by kernel_rfl⟩
instance : PlC 86 #[(0, 1), (1, 1), (2, 1)] := ⟨_, Tryz.underlying86, fun w => by kernel_rfl⟩
instance : PlC 93 #[(0, 1), (1, 1), (2, 1)] := ⟨_, Z0, fun w => by kernel_rfl⟩
instance : PlC 101 #[(0, 1)] := ⟨_, Tryz.underlying101, fun w => by kernel_rfl⟩
instance : PlC 112 #[(0, 1), (1, 1), (2, 1), (3, 1)] := ⟨_, Tryz.underlying112, fun w => by kernel_rfl⟩
instance : PlC 128 #[(0, 1), (1, 1)] := ⟨_, Tryz.underlying128, fun w => by kernel_rfl⟩
instance : PlC 141 #[(0, 1), (1, 1), (2, 1)] := ⟨_, AD8, fun w => by kernel_rfl⟩
instance : PlC 146 #[(0, 1), (1, 1), (2, 1)] := ⟨_, Tryz.underlying146, fun w => by kernel_rfl⟩
instance : PlC 190 #[(0, 1), (1, 1), (2, 1), (3, 1), (4, 1), (5, 1), (6, 1)] := ⟨_, Tryz.underlying190, fun w => by kernel_rfl⟩
instance : PlC 192 #[(0, 1), (1, 7)] := ⟨_, Tryz.underlying192, fun w => by kernel_rfl⟩
instance : PlC 228 #[(0, 1), (1, 1), (2, 1)] := ⟨_, Tryz.underlying228, fun w => by kernel_rfl⟩
instance : PlC 245 #[(0, 9)] := ⟨_, Tryz.underlying245, fun w => by kernel_rfl⟩
instance : PlC 256 #[(0, 1), (1, 1), (2, 1), (3, 1), (4, 1)] := ⟨_, Tryz.underlying256, fun w => by kernel_rfl⟩
instance : PlC 276 #[(0, 1), (1, 1)] := ⟨_, Tryz.underlying276, fun w => by kernel_rfl⟩
instance : PlC 322 #[(0, 1), (1, 1)] := ⟨_, V4, fun w => by kernel_rfl⟩
instance : PlC 325 #[(0, 1), (1, 1), (2, 1)] := ⟨_, Tryz.underlying325, fun w => by kernel_rfl⟩
theorem omA {p : Prop} (h : p := by first | omega | ((try simp only [Cj6, W7, szR] at *); omega) | (have hc2 := hc; simp only [bolZs, i8, Ay7, A7, H4] at hc2; omega)) : p := h
theorem fsl {fs : Array Field} {k : Nat} {fd : Field} (h : fs.toList[k]? = some fd) : fs[k]? = some fd := by rw [← h]; simp
section
variable {P : Program} {G : Nat → Prop} {n : Nat}
theorem w_fldB2 {own : List Own} {o : Oper} {E : O8} {t : TypeId} {p : Operand} {b off : Nat} {fs : Array Field} {fd : Field} {k j : Nat} (m : Nat) (ho : o.op = .fieldAddr t p k) (ht : P.underlying t = some (.struct fs)) (hk : fs.toList[k]? = some fd) (hs : ∀ w, (sizeOf fd.type).run P w = .ok (j + 1) w)
    (hp : Ev E p (AV.ptr b off)) (hm : off + fd.offset = m) : OpW P G n own o E (AV.ptr b m) := BX5 m ho ht (fsl hk) hs hp hm
theorem w_fldE2 {own : List Own} {o : Oper} {E : O8} {t : TypeId} {p : Operand} {fs : Array Field} {fd : Field} {k m : Nat} {xs ys : List AV} (ho : o.op = .fieldAddr t p k) (ht : P.underlying t = some (.struct fs)) (hk : fs.toList[k]? = some fd) (hs : ∀ w, (sizeOf fd.type).run P w = .ok (m + 1) w)
    (hp : Ev E p (AV.eptr xs)) (hy : xs.drop fd.offset = ys) : OpW P G n own o E (AV.eptr ys) := w_fldE ho ht (fsl hk) hs hp hy
theorem w_build2 {own : List Own} {o : Oper} {E : O8} {t : TypeId} {z : Value} {ps : Array (Nat × Operand)} {asl : List (Nat × List AV)} {places : Array (Nat × Nat)} {cs : List AV} (ho : o.op = .build t ps) (hz : ∀ w, (zeroValue t).run P w = .ok z w)
    (hpl : ∃ fs, P.underlying t = some (.struct fs) ∧ ∀ w, (fs.mapM (m := Sem) fun f => do pure (f.offset, ← sizeOf f.type)).run P w = .ok places w) (h1' : z.cells.toList.all Value.oneCell' = true) (hp : EvP E ps.toList asl) (hc : Ah4 (places[·]?) (z.cells.toList.map u7) asl = some cs) :
    OpW P G n own o E (AV.agg cs) := by
  obtain ⟨fs, h1, h2⟩ := hpl;exact i6 ho h1 hz h2 h1' hp hc
theorem gSq {B : Prop} {ops : Array Oper} {l : List Oper} {s : H6} {K : H6 → Prop} (h : B → Q5 P G n ops l s K) : B → Q5 P G n ops l s K := h
theorem gCh {B : Prop} {own : List Own} {ops : Array Oper} {l : List Oper} {e : List (Nat × AV)} {K : List (Nat × AV) → Prop} (h : B → Ah8 P G n own ops l e K) : B → Ah8 P G n own ops l e K := h
theorem gBc {B : Prop} {I : List Own → Prop} {ops : Array Oper} {l : List (Nat × Bool)} {e : List (Nat × AV)} {W : List Own} {K : List (Nat × AV) → List Own → Prop} (h : B → BCh P G n I ops l e W K) : B → BCh P G n I ops l e W K := h
theorem gBt {B : Prop} {I : List Own → Prop} {ops : Array Oper} {l : OT} {e : List (Nat × AV)} {W : List Own} {K : List (Nat × AV) → List Own → Prop} (h : B → BT P G n I ops l e W K) : B → BT P G n I ops l e W K := h
theorem gB3 {B : Prop} {I : List Own → Prop} {ops : Array Oper} {l : OT3} {e : List (Nat × AV)} {W : List Own} {K : List (Nat × AV) → List Own → Prop} (h : B → BT3 P G n I ops l e W K) : B → BT3 P G n I ops l e W K := h
end
theorem ix0 {α : Type} {l : List α} {x : α} (h : l[0]? = some x) : l[0]? = some x := h
theorem ix1 {α : Type} {l : List α} {x : α} (h : l[1]? = some x) : l[1]? = some x := h
theorem ix2 {α : Type} {l : List α} {x : α} (h : l[2]? = some x) : l[2]? = some x := h
theorem ix3 {α : Type} {l : List α} {x : α} (h : l[3]? = some x) : l[3]? = some x := h
theorem ix4 {α : Type} {l : List α} {x : α} (h : l[4]? = some x) : l[4]? = some x := h
theorem ix5 {α : Type} {l : List α} {x : α} (h : l[5]? = some x) : l[5]? = some x := h
theorem ix6 {α : Type} {l : List α} {x : α} (h : l[6]? = some x) : l[6]? = some x := h
theorem ix7 {α : Type} {l : List α} {x : α} (h : l[7]? = some x) : l[7]? = some x := h
theorem ix8 {α : Type} {l : List α} {x : α} (h : l[8]? = some x) : l[8]? = some x := h
theorem ix9 {α : Type} {l : List α} {x : α} (h : l[9]? = some x) : l[9]? = some x := h
theorem ix10 {α : Type} {l : List α} {x : α} (h : l[10]? = some x) : l[10]? = some x := h
theorem ix11 {α : Type} {l : List α} {x : α} (h : l[11]? = some x) : l[11]? = some x := h
theorem ix12 {α : Type} {l : List α} {x : α} (h : l[12]? = some x) : l[12]? = some x := h
theorem ix13 {α : Type} {l : List α} {x : α} (h : l[13]? = some x) : l[13]? = some x := h
theorem ix14 {α : Type} {l : List α} {x : α} (h : l[14]? = some x) : l[14]? = some x := h
theorem ix15 {α : Type} {l : List α} {x : α} (h : l[15]? = some x) : l[15]? = some x := h
theorem ixA {p : Prop} (h : p := by 
  first
  | (apply ix0; apply Eq.refl)
  | (apply ix1; apply Eq.refl)
  | (apply ix2; apply Eq.refl)
  | (apply ix3; apply Eq.refl)
  | (apply ix4; apply Eq.refl)
  | (apply ix5; apply Eq.refl)
  | (apply ix6; apply Eq.refl)
  | (apply ix7; apply Eq.refl)
  | (apply ix8; apply Eq.refl)
  | (apply ix9; apply Eq.refl)
  | (apply ix10; apply Eq.refl)
  | (apply ix11; apply Eq.refl)
  | (apply ix12; apply Eq.refl)
  | (apply ix13; apply Eq.refl)
  | (apply ix14; apply Eq.refl)
  | (apply ix15; apply Eq.refl)) : p := h
theorem evA {p : Prop} (h : p := by 
  first
  | (apply A9; apply Eq.refl; exact hc)
  | (apply A9; apply Eq.refl; exact (and_l hc))
  | (apply A0; apply Eq.refl)
  | apply J4
  | apply Af6) : p := h
theorem eiA {p : Prop} (h : p := by 
  first
  | (apply evif_w; apply Eq.refl)
  | (apply evif_w2; apply Eq.refl; exact hc)
  | (apply evif; exact evA)) : p := h
theorem asA {p : Prop} (h : p := by 
  first
  | apply i3
  | apply W9
  | apply AX3
  | apply n6
  | apply m4) : p := h
theorem bpA {p : Prop} (h : p := by (repeat (apply D7; exact evA; exact asA)); apply V1) : p := h
theorem gdA {p : Prop} (h : p := by 
  first
  | (apply X0; apply Eq.refl; apply Eq.refl; apply Eq.refl)
  | (apply i5; apply Eq.refl; apply Eq.refl; apply Eq.refl)
  | (apply Z4; apply Eq.refl; apply Eq.refl; apply Eq.refl)
  | (apply BM6; apply Eq.refl; apply Eq.refl; apply Eq.refl)) : p := h
theorem nm0 {x : Nat} (h : x = 0) : x = 0 := h
theorem nm1 {x : Nat} (h : x = 1) : x = 1 := h
theorem nm2 {x : Nat} (h : x = 2) : x = 2 := h
theorem nm3 {x : Nat} (h : x = 3) : x = 3 := h
theorem nm4 {x : Nat} (h : x = 4) : x = 4 := h
theorem nm5 {x : Nat} (h : x = 5) : x = 5 := h
theorem nm6 {x : Nat} (h : x = 6) : x = 6 := h
theorem nm7 {x : Nat} (h : x = 7) : x = 7 := h
theorem nm8 {x : Nat} (h : x = 8) : x = 8 := h
theorem nm9 {x : Nat} (h : x = 9) : x = 9 := h
theorem nm10 {x : Nat} (h : x = 10) : x = 10 := h
theorem nm11 {x : Nat} (h : x = 11) : x = 11 := h
theorem nm12 {x : Nat} (h : x = 12) : x = 12 := h
theorem nm13 {x : Nat} (h : x = 13) : x = 13 := h
theorem nm14 {x : Nat} (h : x = 14) : x = 14 := h
theorem nm15 {x : Nat} (h : x = 15) : x = 15 := h
theorem nm16 {x : Nat} (h : x = 16) : x = 16 := h
theorem nm17 {x : Nat} (h : x = 17) : x = 17 := h
theorem nm18 {x : Nat} (h : x = 18) : x = 18 := h
theorem nm19 {x : Nat} (h : x = 19) : x = 19 := h
theorem nm20 {x : Nat} (h : x = 20) : x = 20 := h
theorem nm21 {x : Nat} (h : x = 21) : x = 21 := h
theorem nm22 {x : Nat} (h : x = 22) : x = 22 := h
theorem nm23 {x : Nat} (h : x = 23) : x = 23 := h
theorem nm24 {x : Nat} (h : x = 24) : x = 24 := h
theorem nm25 {x : Nat} (h : x = 25) : x = 25 := h
theorem nm26 {x : Nat} (h : x = 26) : x = 26 := h
theorem nm27 {x : Nat} (h : x = 27) : x = 27 := h
theorem nm28 {x : Nat} (h : x = 28) : x = 28 := h
theorem nm29 {x : Nat} (h : x = 29) : x = 29 := h
theorem nm30 {x : Nat} (h : x = 30) : x = 30 := h
theorem nm31 {x : Nat} (h : x = 31) : x = 31 := h
theorem nm32 {x : Nat} (h : x = 32) : x = 32 := h
theorem nmA {p : Prop} (h : p := by 
  first
  | (apply nm0; apply Eq.refl)
  | (apply nm1; apply Eq.refl)
  | (apply nm2; apply Eq.refl)
  | (apply nm3; apply Eq.refl)
  | (apply nm4; apply Eq.refl)
  | (apply nm5; apply Eq.refl)
  | (apply nm6; apply Eq.refl)
  | (apply nm7; apply Eq.refl)
  | (apply nm8; apply Eq.refl)
  | (apply nm9; apply Eq.refl)
  | (apply nm10; apply Eq.refl)
  | (apply nm11; apply Eq.refl)
  | (apply nm12; apply Eq.refl)
  | (apply nm13; apply Eq.refl)
  | (apply nm14; apply Eq.refl)
  | (apply nm15; apply Eq.refl)
  | (apply nm16; apply Eq.refl)
  | (apply nm17; apply Eq.refl)
  | (apply nm18; apply Eq.refl)
  | (apply nm19; apply Eq.refl)
  | (apply nm20; apply Eq.refl)
  | (apply nm21; apply Eq.refl)
  | (apply nm22; apply Eq.refl)
  | (apply nm23; apply Eq.refl)
  | (apply nm24; apply Eq.refl)
  | (apply nm25; apply Eq.refl)
  | (apply nm26; apply Eq.refl)
  | (apply nm27; apply Eq.refl)
  | (apply nm28; apply Eq.refl)
  | (apply nm29; apply Eq.refl)
  | (apply nm30; apply Eq.refl)
  | (apply nm31; apply Eq.refl)
  | (apply nm32; apply Eq.refl)) : p := h
theorem vA {p : Prop} (h : p := by 
  first
  | (apply w_move; apply Eq.refl; exact evA)
  | (apply E3; apply Eq.refl; exact evA)
  | (apply w_fldB2; apply Eq.refl; exact unL; apply Eq.refl; exact szL; exact evA; exact nmA)
  | (apply BM8; apply Eq.refl; exact evA; exact ixA; exact agL; apply Eq.refl)
  | (apply DD6; apply Eq.refl; exact evA; exact ixA; exact agL; exact szL; apply Eq.refl)
  | (apply w_llen; apply Eq.refl; exact unL; exact evA)
  | (apply DR1; apply Eq.refl; exact evA; apply Eq.refl)
  | (apply w_not; apply Eq.refl; exact evA)
  | (apply w_loadE1; apply Eq.refl; exact evA; exact agL; apply Eq.refl)
  | (apply w_loadE; apply Eq.refl; exact evA; exact agL; exact szL)
  | (apply w_fldE2; apply Eq.refl; exact unL; apply Eq.refl; exact szL; exact evA; apply Eq.refl)
  | (apply w_nilB; apply Eq.refl; exact evA)
  | (apply Cj7; apply Eq.refl; exact evA; exact eiA)
  | (apply w_or; apply Eq.refl; exact evA; exact eiA)
  | (apply w_lss; apply Eq.refl; exact evA; exact evA)
  | (apply w_eql; apply Eq.refl; exact evA; exact evA)
  | (apply BX2; apply Eq.refl; exact evA; exact evA; exact omA)
  | (apply w_subi; apply Eq.refl; exact evA; exact evA; exact omA)
  | (apply w_gtr; apply Eq.refl; exact evA; exact evA)
  | (apply w_leq; apply Eq.refl; exact evA; exact evA)
  | (apply w_geq; apply Eq.refl; exact evA; exact evA)
  | (apply w_neq; apply Eq.refl; exact evA; exact evA)
  | (apply Ak4; apply Eq.refl; exact evA; exact evA)
  | (apply Cl2; apply Eq.refl; exact evA; exact evA)
  | (apply w_alen; apply Eq.refl; exact unL; exact evA; exact ixA)
  | (apply w_slen; apply Eq.refl; exact unL; exact evA)
  | (apply w_build2; apply Eq.refl; exact zvL; exact plL; apply Eq.refl; exact bpA; apply Eq.refl)
  | (apply At3; apply Eq.refl; exact unL; exact szL; exact zvL; apply Eq.refl; apply Eq.refl; apply Eq.refl; apply Eq.refl; exact bpA; apply Eq.refl; apply Eq.refl)) : p := h
theorem s1 {A B : Prop} (h : B → A := by
 first
 | ((with_reducible apply gSq); first | (apply Bc2; apply Eq.refl; apply Eq.refl; apply Eq.refl; exact vA) | apply sq_nil | (apply AC2; apply Eq.refl; apply Eq.refl; exact gdA; exact (fun hc => vA)) | (apply DH8; apply Eq.refl; apply Eq.refl; apply Eq.refl; exact evA; exact evA; exact asA; exact ixA; exact szL; apply Eq.refl) | (apply M4; apply Eq.refl; apply Eq.refl; apply Eq.refl; exact evA; exact evA; exact asA; exact ixA; exact szL; apply Eq.refl) | (apply sq_alloc; apply Eq.refl; apply Eq.refl; apply Eq.refl; apply Eq.refl; exact zvL; apply Eq.refl) | (apply sq_box; apply Eq.refl; apply Eq.refl; apply Eq.refl; apply Eq.refl; exact evA))
 | ((with_reducible apply gCh); first | (apply B7; apply Eq.refl; apply Eq.refl; exact vA) | apply ch_nil | (apply S5; apply Eq.refl; exact gdA; exact (fun hc => vA)))
 | ((with_reducible apply gBc); first | (apply P7; apply Eq.refl; apply Eq.refl; apply Eq.refl; exact (fun ext => vA)) | apply bc_nil)
 | ((with_reducible apply gBt); first | (apply M0; apply Eq.refl; apply Eq.refl; apply Eq.refl; exact (fun ext => vA)) | apply bt_nil | apply bt_e1)
 | ((with_reducible apply gB3); first | (apply AZ1; apply Eq.refl; apply Eq.refl; apply Eq.refl; exact (fun ext => vA)) | apply bt3_nil | apply bt3_e1)
 | apply awp_seq
 | apply DH2
 | apply DR0
 | apply awp_skip
 | apply awp_ret
 | apply awp_exit
 | (apply CR0; kernel_rfl; kernel_rfl; apply Eq.refl)) : B → A := h
theorem s2 {A B C : Prop} (g : B → A) (f : C → B) : C → A := fun c => g (f c)
theorem t1 {A B : Prop} (h : B → A := by exact s1) : B → A := h
theorem t2 {A B : Prop} (h : B → A := by exact s2 t1 t1) : B → A := h
theorem t4 {A B : Prop} (h : B → A := by exact s2 t2 t2) : B → A := h
theorem t8 {A B : Prop} (h : B → A := by exact s2 t4 t4) : B → A := h
theorem t16 {A B : Prop} (h : B → A := by exact s2 t8 t8) : B → A := h
theorem t32 {A B : Prop} (h : B → A := by exact s2 t16 t16) : B → A := h
theorem R1 {A B : Prop} (k : B) (h : B → A := by exact t1) : A := h k
theorem R2 {A B : Prop} (k : B) (h : B → A := by exact t2) : A := h k
theorem R3 {A B : Prop} (k : B) (h : B → A := by exact s2 t2 t1) : A := h k
theorem R4 {A B : Prop} (k : B) (h : B → A := by exact t4) : A := h k
theorem R5 {A B : Prop} (k : B) (h : B → A := by exact s2 t4 t1) : A := h k
theorem R6 {A B : Prop} (k : B) (h : B → A := by exact s2 t4 t2) : A := h k
theorem R7 {A B : Prop} (k : B) (h : B → A := by exact s2 t4 (s2 t2 t1)) : A := h k
theorem R8 {A B : Prop} (k : B) (h : B → A := by exact t8) : A := h k
theorem R9 {A B : Prop} (k : B) (h : B → A := by exact s2 t8 t1) : A := h k
theorem R10 {A B : Prop} (k : B) (h : B → A := by exact s2 t8 t2) : A := h k
theorem R11 {A B : Prop} (k : B) (h : B → A := by exact s2 t8 (s2 t2 t1)) : A := h k
theorem R12 {A B : Prop} (k : B) (h : B → A := by exact s2 t8 t4) : A := h k
theorem R13 {A B : Prop} (k : B) (h : B → A := by exact s2 t8 (s2 t4 t1)) : A := h k
theorem R14 {A B : Prop} (k : B) (h : B → A := by exact s2 t8 (s2 t4 t2)) : A := h k
theorem R15 {A B : Prop} (k : B) (h : B → A := by exact s2 t8 (s2 t4 (s2 t2 t1))) : A := h k
theorem R16 {A B : Prop} (k : B) (h : B → A := by exact t16) : A := h k
theorem R17 {A B : Prop} (k : B) (h : B → A := by exact s2 t16 t1) : A := h k
theorem R18 {A B : Prop} (k : B) (h : B → A := by exact s2 t16 t2) : A := h k
theorem R19 {A B : Prop} (k : B) (h : B → A := by exact s2 t16 (s2 t2 t1)) : A := h k
theorem R20 {A B : Prop} (k : B) (h : B → A := by exact s2 t16 t4) : A := h k
theorem R21 {A B : Prop} (k : B) (h : B → A := by exact s2 t16 (s2 t4 t1)) : A := h k
theorem R22 {A B : Prop} (k : B) (h : B → A := by exact s2 t16 (s2 t4 t2)) : A := h k
theorem R23 {A B : Prop} (k : B) (h : B → A := by exact s2 t16 (s2 t4 (s2 t2 t1))) : A := h k
theorem R24 {A B : Prop} (k : B) (h : B → A := by exact s2 t16 t8) : A := h k
theorem R27 {A B : Prop} (k : B) (h : B → A := by exact s2 t16 (s2 t8 (s2 t2 t1))) : A := h k
theorem R28 {A B : Prop} (k : B) (h : B → A := by exact s2 t16 (s2 t8 t4)) : A := h k
theorem R33 {A B : Prop} (k : B) (h : B → A := by exact s2 t32 t1) : A := h k
theorem R36 {A B : Prop} (k : B) (h : B → A := by exact s2 t32 t4) : A := h k
theorem zA {E : O8} {t : Nat} {x : AV} (h : E t = some x := by exact rfl) : Ev E (.tmp t) x := A0 h
theorem zE {p : Prop} (h : p := by first | exact zA | exact A9 rfl hc | apply J4 | apply Af6) : p := h
theorem zS {p : Prop} (h : p := by (repeat (apply A2; exact zE)); exact B0) : p := h
theorem zR {A B : Prop} (h : B → A := by intro zvz; repeat' first | exact zvz | refine R1 ?_) : B → A := h
section
variable {P : Program} {G : Nat → Prop} {n : Nat} {Q : Exit → H6 → Prop} {s : H6} {own : List Own}
theorem zC {A : Prop} {c : Nat} {x y : Code} {b : Bool} (ht : b = true → AWP P G n x Q s) (hf : b = false → AWP P G n y Q s) (h : AWP P G n (.cond (.tmp c) x y) Q s → A := by exact zR) (hc : M8 c s.env = some (AV.bool b) := by exact rfl) : A := h (A3 ht hf hc)
theorem zK {A : Prop} {c : Nat} {x y : Code} {b : Bool} {p u v : Prop} {d : Decidable p} (ht : b = true → u → AWP P G n x Q s) (hf : b = false → v → AWP P G n y Q s) (h : AWP P G n (.cond (.tmp c) x y) Q s → A := by exact zR) (hc : M8 c s.env = some (AV.bool b) := by exact rfl) (hb : b = @decide p d := by exact rfl) (e : p = u := by (try simp only [List.length_map]); exact rfl) (e' : (¬p) = v := by (try simp only [List.length_map]); exact rfl) : A := h (A3 (fun t => ht t (e ▸ of_decide_eq_true (hb ▸ t))) (fun t => hf t (e' ▸ of_decide_eq_false (hb ▸ t))) hc)
theorem zL {sel rest : List Own} {c : Code} {env : List (Nat × AV)} (is : List Nat) (k : AWP P G n c Q ⟨sel ++ rest, env⟩) (h : pick own is = (sel, rest) := by exact rfl) : AWP P G n c Q ⟨own, env⟩ := AWP.le (B4 is h) k
variable {o : Oper} {ops : Array Oper} {E : O8} {env : List (Nat × AV)} {rs : List Oper} {K : H6 → Prop} {d : Nat} {f : FuncId} {args : Array Operand} {tys : Array TypeId} {ps : List Operand} {xs : List AV} {x y : AV}
theorem zG (h : (o.op, args.toList) = (.call { callee := .value (.func f), args := args, argTypes := tys }, ps)) (hc : ∀ (vs : Array Value) (w : World), (callFunc f vs).run P w = .ok (.enter f vs) w) (hs : K6 P f xs y) (he : EvL E ps xs) : OpW P G n own o E y := A6 (congrArg Prod.fst h) hc (congrArg Prod.snd h) hs he
theorem zF (h : (o.guard, o.dst, Nat.blt d n, o.op, args.toList) = (none, some d, true, .call { callee := .value (.func f), args := args, argTypes := tys }, ps)) (hc : ∀ (vs : Array Value) (w : World), (callFunc f vs).run P w = .ok (.enter f vs) w) (hs : K6 P f xs x) (he : EvL (M8 · env) ps xs) (k : Q5 P G n ops rs ⟨own, (d, x) :: env⟩ K) : Q5 P G n ops (o :: rs) ⟨own, env⟩ K := by
  simp only [Prod.mk.injEq] at h
  exact A1 (by rw [h.1, h.2.1, h.2.2.1]) (A6 h.2.2.2.1 hc h.2.2.2.2 hs he) k
theorem zI {sel rest : List Own} {α : Type} {ok : α → Prop} {O : α → List Own} {V : α → AV} (is : List Nat) (h : (o.guard, o.op, o.dst, Nat.blt d n, args.toList) = (none, .call { callee := .value (.func f), args := args, argTypes := tys }, some d, true, ps)) (hc : ∀ (vs : Array Value) (w : World), (callFunc f vs).run P w = .ok (.enter f vs) w) (hs : K8 P f xs sel ok O V) (he : EvL (M8 · env) ps xs) (hp : pick own is = (sel, rest)) (k : ∀ a, ok a → Q5 P G n ops rs ⟨O a ++ rest, (d, V a) :: env⟩ K) : Q5 P G n ops (o :: rs) ⟨own, env⟩ K := by
  simp only [Prod.mk.injEq] at h
  exact F1 is h.1 h.2.1 h.2.2.1 h.2.2.2.1 hc h.2.2.2.2 hs he hp k
theorem zX {α : Type} {f : α → List AV} {l : List α} {t e : TypeId} {p q : Operand} {sz k : Nat} {i : Int} {x : α} (hx : l[k]? = some x) (ho : o.op = .indexAddr t p q := by exact rfl) (ht : Tryz.prog.underlying t = some (.slice e) := by exact unL) (hsz : ∀ w, (sizeOf e).run Tryz.prog w = .ok sz w := by exact szL) (hp : Ev E p (AV.list sz (l.map f)) := by exact zA) (hq : Ev E q (AV.int i) := by exact zA) (hk : i = (k : Int) := by exact qz3) : OpW Tryz.prog G n own o E (AV.eptr (f x)) := C8 ho ht hsz hp hq hx hk
end
theorem zq0 {A B : Prop} (k : B) (h : B → A := by exact s2 (s2 t4 t1) (by exact s2 (A1 rfl (zX hx)) (by exact t2))) : A := h k
theorem zq1 {A B : Prop} (k : B) (h : B → A := by exact s2 (AZ1 rfl rfl rfl (fun ext => i6 (places := #[(0, 1), (1, 1), (2, 1), (3, 1), (4, 1), (5, 1), (6, 1), (7, 1), (8, 1)]) rfl X4 zeroValue32 (fun w => by kernel_rfl) rfl (D7 zA (L2 one_v73) (D7 zA (m4 _ _) (D7 zA (L2 one_v77) (D7 zA (L2 one_v79) V1)))) rfl)) (by exact s2 t2 t1)) : A := h k
theorem zq2 {A B : Prop} (k : B) (h : B → A := by exact J8 rfl rfl rfl (X5 rfl zeroValue32 rfl) (fun a _ => qz4)) : A := h k
theorem zq3 {A B : Prop} (k : B) (h : B → A := by exact A1 rfl (E3 rfl (J1 (l := []) rfl))) : A := h k
theorem zq4 {A B : Prop} (k : B) (h : B → A := by exact M0 rfl rfl rfl (fun ext => i6 (places := #[(0, 1), (1, 1), (2, 1), (3, 1), (4, 1), (5, 1), (6, 1), (7, 1), (8, 1)]) rfl X4 zeroValue32 (fun w => by kernel_rfl) rfl (D7 zA (W9 _ _) (D7 zA (W9 _ _) (D7 zA (L2 one_v17_1) (D7 zA (m4 _ _) (D7 zA (L2 one_x23) V1))))) rfl)) : A := h k
theorem zq5 {p : Prop} (h : p := by exact D5 rfl (A8 rfl B8)) : p := h
theorem zq6 {A B : Prop} (k : B) (h : B → A := by exact s2 t1 (by exact s2 (G6 qz9) (by exact s2 (l9 71 3) (by exact s2 (fun zvz => zL [1, 1, 1, 1, 1, 1, 1, 0, 0] zvz) (by exact AWP.le (S6 7 (t := nin B5.ow (P9.take (j + 1)) (T ++ [(E8, v120)])) ((Ao6 (b := [Go.AV.Own.arr (E8) 71 3 [], Go.AV.Own.arr v120 3 1 ((List.replicate N (0 : Int)).map fun n => [AV.int n])] ++ nin B5.ow (P9.take j) T) qz111 (Ag0 (ow := B5.ow) (x := (E8, v120)) ht hinv.2))))))))) : A := h k
theorem zq7 {A B : Prop} (k : B) (h : B → A := by exact A1 rfl (E3 rfl I2)) : A := h k
theorem zq8 {p : Prop} (h : p := by exact ⟨E2 _, rfl⟩) : p := h
theorem zq9 {A B : Prop} (k : B) (h : B → A := by exact AWP.le (S6 7 (t := ([Go.AV.Own.arr y.1 71 3 (tx.Got.map F9.cs), Go.AV.Own.arr y.2 3 1 (tx.Terms.map fun n => [AV.int n])]) ++ (nin B5.ow (w.Txns.eraseIdx (t - 1).toNat) (T.eraseIdx (t - 1).toNat) ++ nin B9.ow w.Looks L)) (AZ7 htx hy))) : A := h k
theorem zq10 {p : Prop} (h : p := by exact D5 rfl (A8 rfl V5)) : p := h
theorem zq11 {A B : Prop} (k : B) (h : B → A := by exact J8 rfl rfl rfl (P3 [] rfl call181 rfl (Am8 cu x16.2 x18.2 ⟨hco, ⟨ok16.2.1, ok16.2.2⟩, ⟨ok18.2.1, ok18.2.2⟩⟩) AJ2 rfl) (fun a _ => qz4)) : A := h k
theorem zq12 {A B : Prop} (k : B) (h : B → A := by exact s2 (M0 rfl rfl rfl (fun ext => i6 (places := #[(0, 1), (1, 1), (2, 1), (3, 1), (4, 1), (5, 1), (6, 1), (7, 1), (8, 1), (9, 1)]) rfl M1 zeroValue55 (fun w => by kernel_rfl) rfl (D7 zA (m4 _ _) (D7 zA (L2 one_v120) (D7 J4 (W9 _ _) (D7 J4 (W9 _ _) V1)))) rfl)) (by exact s2 t2 (by exact J8 rfl rfl rfl (L9 (by' := 112) 6 rfl N0 type55 rfl rfl rfl rfl rfl rfl zA zA rfl Bb5) (fun a _ => qz4)))) : A := h k
theorem zq13 {A B : Prop} (k : B) (h : B → A := by exact s2 (O5 _ [(0, false), (1, false), (2, false), (3, false), (4, false), (5, false), (6, false), (7, false), (8, false), (9, false), (10, false), (11, false), (12, false), (13, false), (14, false), (15, false), (16, false), (17, false), (18, false), (19, false), (20, false), (21, false), (22, true)] E6 E6 rfl (S1 2)) (by exact s2 (s2 t8 (s2 t4 t2)) (by exact s2 (P7 rfl rfl rfl (fun ext => I3 1 rfl N0 T5 zA rfl zA qz8 Aw0)) (by exact s2 (P7 rfl rfl rfl (fun ext => L5 1 rfl M1 rfl S3 zA rfl rfl qz2)) (by exact P7 rfl rfl rfl (fun ext => N5 1 rfl zA rfl AD6 qz2 rfl)))))) : A := h k
theorem zq14 {p : Prop} (h : p := by refine A1 rfl (Ak4 rfl zA (J1 (l := []) rfl)) ?_;refine R3 ?_;refine J6 rfl (fun hc => zG rfl call71 (Q0 _ _ _) (A2 (A9 rfl hc) AP3)) ?_;refine R4 ?_;exact D5 rfl (A8 rfl BM5)) : p := h
theorem zq15 {A B : Prop} (k : B) (h : B → A := by exact s2 (B7 rfl rfl (zG rfl call169 (Ay5 _ qz8) (A2 (A0 rfl) B0))) (by exact s2 t1 (by exact s2 (B7 rfl rfl (zG rfl call167 (AQ7 buf ⟨x.Key, Z6 _, false⟩ qz8 hinv.2.2.1) F4)) (by exact s2 t4 t2)))) : A := h k
theorem zq16 {A B : Prop} (k : B) (h : B → A := by exact J8 rfl rfl rfl (L9 (by' := 40) 2 rfl D6 type322 rfl rfl rfl rfl rfl rfl zA zA rfl BU0) (fun a _ => qz4)) : A := h k
theorem zq17 {A B : Prop} (k : B) (h : B → A := by exact s2 (A1 rfl (i9 6 rfl zA rfl qz0 rfl)) (by exact A1 rfl (L5 6 rfl Q3 rfl F2 zA rfl rfl qz0))) : A := h k
theorem zq18 {A B : Prop} (k : B) (h : B → A := by exact s2 (P7 rfl rfl rfl (fun ext => I3 1 rfl D6 K0 zA rfl zA qz8 Bs2)) (by exact s2 (P7 rfl rfl rfl (fun ext => L5 1 rfl V4 rfl z7 zA rfl rfl (AK4 hA))) (by exact P7 rfl rfl rfl (fun ext => N5 1 rfl zA rfl isAgg320 (AK4 hA) rfl)))) : A := h k
theorem zq19 {A B : Prop} (k : B) (h : B → A := by exact s2 (B7 rfl rfl (i9 6 rfl zA rfl qz0 rfl)) (by exact s2 (B7 rfl rfl (L5 6 rfl Q3 rfl F2 zA rfl rfl qz0)) (by exact B7 rfl rfl (N5 6 rfl zA rfl Q4 qz0 rfl)))) : A := h k
theorem zq20 {A B : Prop} (k : B) (h : B → A := by exact zI [3, 0] rfl call251 (Ao3 _ _ s.Told ⟨r.Txn, r.Yes, r.Time⟩ (BA2 s.Told r.Txn) htle qz8) (A2 (A0 rfl) (A2 (A0 rfl) (A2 (A0 rfl) B0))) rfl) : A := h k
theorem zq21 {A B : Prop} (k : B) (h : B → A := by exact zI [1] rfl call82 (Q6 _ _ hcode _ _ qz8 qz8) (A2 (A0 rfl) (A2 J4 B0)) rfl) : A := h k
theorem zq22 {A B : Prop} (k : B) (h : B → A := by exact J8 rfl rfl rfl (P3 [1] rfl call146 rfl (Ay6 _ _ hcode _ x7.2 _ ok7.2.1 D4 qz8) (A2 (A0 rfl) (A2 (A0 rfl) (A2 J4 B0))) rfl) (fun a _ => qz4)) : A := h k
theorem zq23 {A B : Prop} (k : B) (h : B → A := by exact s2 (s2 t4 t2) (by exact s2 (A1 rfl (zX hx)) (by exact t2))) : A := h k
theorem zq24 {A B : Prop} (k : B) (h : B → A := by exact s2 t4 (by exact L3 [1, 1, 1, 1, 1, 1, 1] 1 7 (nwZ w T L) (fun zz => nwZ zz.1 T L) rfl rfl rfl rfl call242 rfl rfl (Bg5 b w X T L a hw ha) F4 (fun a => N3))) : A := h k
theorem zq25 {A B : Prop} (k : B) (h : B → A := by exact s2 (AWP.le (S6 7 (t := ([Go.AV.Own.arr y.1 71 3 (tx.Got.map F9.cs), Go.AV.Own.arr y.2 3 1 (tx.Terms.map fun n => [AV.int n])]) ++ (nin B5.ow (x38.1.Txns.eraseIdx (t - 1).toNat) (T.eraseIdx (t - 1).toNat) ++ nin B9.ow x38.1.Looks L)) (AZ7 htx hy))) (by exact s2 t8 (by exact s2 (A1 rfl (I3 5 rfl N0 T5 zA rfl zA qz8 Aw0)) (by exact s2 (A1 rfl (L5 5 rfl M1 rfl S3 zA rfl rfl qz2)) (by exact A1 rfl (N5 5 rfl zA rfl AD6 qz2 rfl)))))) : A := h k
theorem zq26 {A B : Prop} (k : B) (h : B → A := by exact s2 (s2 t2 t1) (by exact zI [1] rfl call86 (AM0 _ _ hcode _ ([(1), (2), (5), (-3), (0), (100)] : List Int) D4 qz8) (A2 (A0 rfl) (A2 (A0 rfl) B0)) rfl)) : A := h k
theorem zq27 {A B : Prop} (k : B) (h : B → A := by exact zI [0] rfl call82 (Q6 _ _ hcode _ _ Aj1 qz8) (A2 (A0 rfl) (A2 (A0 rfl) B0)) rfl) : A := h k
theorem zq28 {A B : Prop} (k : B) (h : B → A := by exact s2 (M4 1 rfl rfl rfl zA zA (L2 one_v70_1) rfl S3 rfl) (by exact s2 t1 (by exact s2 (AWP.le (Ag2 [0] 0 (.box b7 45 [AV.int ((i : Int) + 1), AV.int t.Begin, AV.int t.End, AV.bool true, AV.bool false, AV.int td.Time, AV.list 3 (t.Got.map F9.cs), AV.list 3 []]) rfl rfl ⟨rfl, rfl, (C1 E4 (C1 E4 (C1 E4 (C1 E4 (C1 E4 (C1 E4 (C1 (K3 (C2 (i := 0) rfl) F6) (C1 E4 Y2))))))))⟩ N7)) (by exact s2 t8 t1)))) : A := h k
theorem zq29 {p : Prop} (h : p := by refine R7 ?_;refine AC8 0 1 2 rfl rfl N7 ?_;refine X3 256 5 ?_;refine X3 62 3 ?_;exact I5 [1, 0] ((E8), (E8)) (trivial) rfl B8 (j9 rfl D4 (I1 (F5 (ys := _) 2 rfl rfl Q1 M2 rfl) Z9))) : p := h
theorem zq30 {A B : Prop} (k : B) (h : B → A := by exact L3 [0, 0, 0, 0, 0, 0, 0] 0 7 (nin B5.ow W'.Txns T ++ nin B9.ow W'.Looks L) (fun zz => nin B5.ow W'.Txns T ++ nin B9.ow W'.Looks L) rfl rfl rfl rfl call286 rfl rfl (hfr) F4 (fun a => N3)) : A := h k
theorem zq31 {A B : Prop} (k : B) (h : B → A := by exact s2 (V9 _ 21 (.pure 0 (.pure 1 (.pure 2 (.pure 3 (.pure 4 (.pure 5 (.pure 6 (.pure 7 (.pure 8 (.pure 9 (.pure 10 (.pure 11 (.pure 12 (.pure 13 (.pure 14 (.pure 15 (.pure 16 (.pure 17 (.pure 18 (.pure 19 (.e1 20 .nil))))))))))))))))))))) E6 E6 rfl (S1 8)) (by exact s2 (s2 t4 t2) (by exact s2 (M0 rfl rfl rfl (fun ext => I3 3 rfl H8 E7 zA rfl zA qz8 AF3)) (by exact s2 (M0 rfl rfl rfl (fun ext => L5 3 rfl Z0 rfl Ad7 zA rfl rfl qz5)) (by exact M0 rfl rfl rfl (fun ext => N5 3 rfl zA rfl isAgg91 qz5 rfl)))))) : A := h k
theorem zq32 {A B : Prop} (k : B) (h : B → A := by exact s2 (M6 5 E6 E6 rfl) (by exact s2 (s2 t2 t1) (by exact s2 (B7 rfl rfl (zG rfl call309 (BO5 _ W5) (A2 (A0 rfl) B0))) (by exact s2 t2 (by exact G1 (by' := 72) 2 rfl rfl rfl rfl G9 type256 rfl rfl rfl rfl rfl rfl zA zA rfl Bk2))))) : A := h k
theorem zq33 {p : Prop} (h : p := by refine R19 ?_;refine J6 rfl (fun hc => Ak4 rfl (A9 rfl hc) (J1 (l := []) rfl)) ?_;refine R9 ?_;exact D5 rfl (A8 rfl BM5)) : p := h
theorem zq34 {A B : Prop} (k : B) (h : B → A := by exact s2 (s2 t4 (s2 t2 t1)) (by exact s2 (G6 Aa7) (by exact s2 (s2 t8 (s2 t2 t1)) (by exact An9 rfl rfl rfl rfl J2 O0 zeroValue62 rfl rfl rfl rfl (D7 zA (i3 _) V1) rfl rfl)))) : A := h k
theorem zq35 {A B : Prop} (k : B) (h : B → A := by exact A1 rfl (E3 rfl (X1 (sz := 3)))) : A := h k
theorem zq36 {A B : Prop} (k : B) (h : B → A := by exact s2 (A1 rfl (E3 rfl (J1 (l := []) rfl))) (by exact s2 t4 (by exact A1 rfl (At3 rfl F0 K1 zeroValue9 rfl rfl rfl rfl (D7 (J1 (l := []) rfl) (n6 _) (D7 (J1 (l := [49]) rfl) (n6 _) (D7 (J1 (l := [55]) rfl) (n6 _) (D7 (J1 (l := [49, 48]) rfl) (n6 _) (D7 (J1 (l := [45, 51]) rfl) (n6 _) (D7 (J1 (l := [120]) rfl) (n6 _) (D7 (J1 (l := [97, 44, 98, 95, 99]) rfl) (n6 _) V1))))))) rfl rfl)))) : A := h k
theorem zq37 {A B : Prop} (k : B) (h : B → A := by exact M0 rfl rfl rfl (fun ext => zG rfl call170 (AF8 _ qz8) (A2 (A0 rfl) B0))) : A := h k
theorem zq38 {A B : Prop} (k : B) (h : B → A := by exact J6 rfl (fun hc => zG rfl Tryz.call71 (Q0 _ _ _) (A2 (A9 rfl hc) AP3))) : A := h k
theorem zq39 {A B : Prop} (k : B) (h : B → A := by exact s2 (V9 _ 17 (.pure 0 (.pure 1 (.pure 2 (.pure 3 (.pure 4 (.pure 5 (.pure 6 (.pure 7 (.pure 8 (.pure 9 (.pure 10 (.pure 11 (.pure 12 (.pure 13 (.pure 14 (.e1 15 (.e1 16 .nil))))))))))))))))) E6 E6 rfl (S1 9)) (by exact s2 (s2 t4 t2) (by exact s2 (M0 rfl rfl rfl (fun ext => I3 4 rfl H8 E7 zA rfl zA qz8 AF3)) (by exact s2 (M0 rfl rfl rfl (fun ext => w5 4 rfl zA rfl P5 E7 qz5 D4)) (by exact t2))))) : A := h k
theorem zq40 {p : Prop} (h : p := by refine R3 ?_;exact G8 [0, 0, 0, 0, 0, 0, 0] 1 (nwZ x54.1 T L) (((x54.1, x54.2), T, L)) (qz7) rfl B8 (N4 rfl (A8 rfl B8))) : p := h
theorem zq41 {A B : Prop} (k : B) (h : B → A := by exact s2 (O5 _ [(0, false), (1, false), (2, false), (3, false), (4, false), (5, false), (6, false), (7, false), (8, false), (9, false), (10, false), (11, false), (12, false), (13, false), (14, true)] E6 E6 rfl (S1 2)) (by exact s2 t4 (by exact s2 (P7 rfl rfl rfl (fun ext => I3 1 rfl D6 K0 zA rfl zA qz8 Bs2)) (by exact s2 (P7 rfl rfl rfl (fun ext => L5 1 rfl V4 rfl z7 zA rfl rfl (AK4 hA))) (by exact s2 (P7 rfl rfl rfl (fun ext => N5 1 rfl zA rfl isAgg320 (AK4 hA) rfl)) (by exact s2 (s2 t4 (s2 t2 t1)) (by exact S8 rfl rfl rfl (L9 (by' := 32) 2 rfl V2 type325 rfl rfl rfl rfl rfl rfl zA zA rfl qz3) (fun a _ => qz4)))))))) : A := h k
theorem zq42 {A B : Prop} (k : B) (h : B → A := by exact AWP.le (S6 7 (t := ([Go.AV.Own.arr z 71 3 (lk.Got.map F9.cs)]) ++ (nin B9.ow (w.Looks.eraseIdx n.toNat) (L.eraseIdx n.toNat) ++ nin B5.ow w.Txns T)) (Bq1 hlk hz))) : A := h k
theorem zq43 {A B : Prop} (k : B) (h : B → A := by exact G1 (by' := 40) 0 rfl rfl rfl rfl I8 type71 rfl rfl rfl rfl rfl rfl zA zA rfl qz3) : A := h k
theorem zq44 {A B : Prop} (k : B) (h : B → A := by exact s2 (fun zvz => zL [0] zvz) (by exact s2 (O5 _ [(0, false), (1, false), (2, false), (3, false), (4, false), (5, false), (6, false), (7, false), (8, false), (10, false), (11, false), (9, true), (12, true), (13, false), (14, false), (15, true)] E6 E6 rfl (S1 1)) (by exact s2 (s2 t8 (s2 t2 t1)) (by exact S8 rfl rfl rfl (AA1 rfl I8 S2) (fun a _ => qz4))))) : A := h k
theorem zq45 {A B : Prop} (k : B) (h : B → A := by exact L3 [1, 1, 1, 1, 1, 1, 1] 1 7 (nwZ w T L) (fun zz => nwZ zz.1.1 zz.2 L) rfl rfl rfl rfl call244 rfl rfl (CV0 b w X T L a hw hq.txns hT ha) F4 (fun a => N3)) : A := h k
theorem zq46 {A B : Prop} (k : B) (h : B → A := by exact s2 (O5 _ [(0, false), (1, false), (3, false), (4, false), (5, false), (6, false), (7, false), (2, true), (8, true), (9, false), (10, true)] E6 E6 rfl (S1 2)) (by exact s2 (s2 t4 t1) (by exact s2 (P7 rfl rfl rfl (fun ext => C8 rfl U7 AA5 zA zA hk qz3)) (by exact s2 t1 (by exact S8 rfl rfl rfl (AA1 rfl U5 q9) (fun a _ => qz4)))))) : A := h k
theorem zq47 {A B : Prop} (k : B) (h : B → A := by exact M0 rfl rfl rfl (fun ext => i6 (places := #[(0, 1), (1, 1)]) rfl V4 zeroValue322 (fun w => by kernel_rfl) rfl (D7 zA (n6 _) (D7 zA (L2 one_v91) V1)) rfl)) : A := h k
theorem zq48 {A B : Prop} (k : B) (h : B → A := by exact s2 t2 (by exact A1 rfl (E3 rfl I2))) : A := h k
theorem zq49 {A B : Prop} (k : B) (h : B → A := by exact s2 (s2 t4 t2) (by exact s2 (M0 rfl rfl rfl (fun ext => I3 3 rfl H8 E7 zA rfl zA qz8 AF3)) (by exact s2 (M0 rfl rfl rfl (fun ext => L5 3 rfl Z0 rfl F2 zA rfl rfl qz5)) (by exact s2 (M0 rfl rfl rfl (fun ext => N5 3 rfl zA rfl Q4 qz5 rfl)) (by exact M0 rfl rfl rfl (fun ext => C8 rfl I0 L0 zA zA (AC3 hin) qz8)))))) : A := h k
theorem zq50 {p : Prop} (h : p := by refine R3 ?_;exact G8 [0, 0, 0, 0, 0, 0, 0] 1 (nwZ x91.1.1 x91.2 L) (((x91.1.1, x91.1.2), x91.2, L)) (qz7) rfl B8 (N4 rfl (A8 rfl B8))) : p := h
theorem zq51 {A B : Prop} (k : B) (h : B → A := by exact s2 (S5 rfl (X0 rfl rfl rfl) (fun hc => I3 2 rfl D6 K0 (A9 rfl hc) rfl (A9 rfl hc) qz6 qz6)) (by exact s2 (S5 rfl (X0 rfl rfl rfl) (fun hc => L5 2 rfl V4 rfl K1 (A9 rfl hc) rfl rfl (hrow0 qz6))) (by exact S5 rfl (X0 rfl rfl rfl) (fun hc => N5 2 rfl (A9 rfl hc) rfl AB8 (hrow0 qz6) rfl)))) : A := h k
theorem zq52 {A B : Prop} (k : B) (h : B → A := by exact O5 _ [(1, false), (2, false), (3, false), (5, false), (6, false), (8, false), (0, true), (4, true), (7, true), (9, true)] E6 E6 rfl Ae8) : A := h k
theorem zq53 {A B : Prop} (k : B) (h : B → A := by exact M0 rfl rfl rfl (fun ext => i6 (places := #[(0, 1), (1, 1), (2, 1), (3, 1), (4, 1), (5, 1), (6, 1), (7, 1), (8, 1)]) rfl X4 zeroValue32 (fun w => by kernel_rfl) rfl (D7 zA (W9 _ _) (D7 zA (W9 _ _) (D7 zA (L2 one_v17_3) (D7 zA (m4 _ _) (D7 zA (L2 one_x23) V1))))) rfl)) : A := h k
theorem zq54 {A B : Prop} (k : B) (h : B → A := by exact M0 rfl rfl rfl (fun ext => i6 (places := #[(0, 1), (1, 1), (2, 1), (3, 1), (4, 1), (5, 1), (6, 1), (7, 1), (8, 1)]) rfl X4 zeroValue32 (fun w => by kernel_rfl) rfl (D7 zA (W9 _ _) (D7 zA (W9 _ _) (D7 zA (L2 one_v17_2) (D7 zA (m4 _ _) (D7 zA (L2 one_x23) V1))))) rfl)) : A := h k
theorem zq55 {A B : Prop} (k : B) (h : B → A := by exact A1 rfl (E3 rfl (X1 (sz := 1)))) : A := h k
theorem zq56 {A B : Prop} (k : B) (h : B → A := by exact s2 (A1 rfl (i9 5 rfl zA rfl qz2 rfl)) (by exact s2 (A1 rfl (L5 5 rfl M1 rfl T7 zA rfl rfl qz2)) (by exact A1 rfl (N5 5 rfl zA rfl AE5 qz2 rfl)))) : A := h k
theorem zq57 {A B : Prop} (k : B) (h : B → A := by exact s2 (J6 rfl (fun hc => BM7 rfl W4 (A9 rfl hc) (A9 rfl hc))) (by exact s2 t4 (by exact J6 rfl (fun hc => BM7 rfl W4 (A9 rfl hc) (A9 rfl hc))))) : A := h k
theorem zq58 {p : Prop} (h : p := by refine R7 ?_;refine X3 141 3 ?_;exact I5 [0] (E8) (trivial) rfl B8 (j9 rfl D4 (I1 (F5 (ys := _) 1 rfl rfl P5 E7 rfl) Z9))) : p := h
theorem zq59 {A B : Prop} (k : B) (h : B → A := by exact s2 (M4 1 rfl rfl rfl zA zA (L2 one_x69) rfl AM3 rfl) (by exact s2 t2 (by exact s2 (G6 Aa7) (by exact s2 t4 (by exact A1 rfl (m5 rfl call56 rfl (Am2 _ _ _ s.Told r.Txn hs3) (Aa8 (I6 (n8 _ _) (I6 (U2 _) V6))) (O6 (Al0 zA (AQ5 (C1 E4 (C1 E4 (C1 (K3 (C2 (i := 0) rfl) F6) (C1 (K3 (C2 (i := 2) rfl) F6) Y2)))))) Aw3))))))) : A := h k
theorem zq60 {A B : Prop} (k : B) (h : B → A := by exact s2 (s2 t2 t1) (by exact s2 (V9 _ 10 (.pure 0 (.pure 1 (.pure 2 (.e2 3 (.e2 4 (.pure 5 (.pure 6 (.pure 7 (.e1 8 (.e1 9 .nil))))) 8 (.e1 4 (.pure 5 (.pure 6 (.pure 7 (.e1 9 .nil)))))) 8 (.e1 3 (.e1 4 (.pure 5 (.pure 6 (.pure 7 (.e1 9 .nil)))))))))) E6 E6 rfl (S1 1)) (by exact s2 t2 t1))) : A := h k
theorem zq61 {p : Prop} (h : p := by exact ⟨by omega, by rw [hinv.2, At6 hx hg.1, Al4 hx hy hg.2]⟩) : p := h
theorem zq62 {p : Prop} (h : p := by exact Y9 rfl D4 (I1 (A8 rfl BG8) (I1 (A8 rfl BG8) z8))) : p := h
theorem zq63 {p : Prop} (h : p := by refine R5 ?_;exact zq5) : p := h
theorem zq64 {A B : Prop} (k : B) (h : B → A := by exact s2 (A1 rfl (i9 6 rfl zA rfl qz0 rfl)) (by exact A1 rfl (L5 6 rfl Q3 rfl S3 zA rfl rfl qz0))) : A := h k
theorem zq65 {A B : Prop} (k : B) (h : B → A := by exact s2 (A1 rfl (i9 5 rfl zA rfl qz2 rfl)) (by exact A1 rfl (L5 5 rfl M1 rfl F2 zA rfl rfl qz2))) : A := h k
theorem zq66 {p : Prop} (h : p := by exact Y9 rfl D4 AI2) : p := h
theorem zq67 {A B : Prop} (k : B) (h : B → A := by exact s2 (S5 rfl (i5 rfl rfl rfl) (fun hc => i9 6 rfl (A9 rfl hc) rfl qz0 rfl)) (by exact s2 (S5 rfl (i5 rfl rfl rfl) (fun hc => L5 6 rfl Q3 rfl F2 (A9 rfl hc) rfl rfl qz0)) (by exact S5 rfl (i5 rfl rfl rfl) (fun hc => N5 6 rfl (A9 rfl hc) rfl Q4 qz0 rfl)))) : A := h k
theorem zq68 {A B : Prop} (k : B) (h : B → A := by exact s2 (s2 t4 (s2 t2 t1)) (by exact zF rfl call276 (BS6 _ _ _ W5) (A2 (A0 rfl) (A2 (A0 rfl) (A2 Af6 B0))))) : A := h k
theorem zq69 {A B : Prop} (k : B) (h : B → A := by exact s2 t1 (by exact J8 rfl rfl rfl (U8 6 (fun _ => rfl) (P3 [] rfl call208 rfl (AU6 w.Promised qz8) I4 rfl)) (fun a _ => qz4))) : A := h k
theorem zq70 {A B : Prop} (k : B) (h : B → A := by exact s2 t2 (by exact s2 (G6 Aa7) (by exact s2 t4 (by exact s2 (A1 rfl (m5 rfl call56 rfl (Am2 _ _ _ s.Told r.Txn hs3) (Aa8 (I6 (n8 _ _) (I6 (U2 _) V6))) (O6 (Al0 zA (AQ5 (C1 E4 (C1 E4 (C1 (K3 (C2 (i := 1) rfl) F6) (C1 (K3 (C2 (i := 2) rfl) F6) Y2)))))) Aw3))) (by exact s2 (s2 t4 (s2 t2 t1)) (by exact s2 (G6 Aa7) (by exact s2 (s2 t8 (s2 t2 t1)) (by exact An9 rfl rfl rfl rfl J2 O0 zeroValue62 rfl rfl rfl rfl (D7 zA (i3 _) V1) rfl rfl)))))))) : A := h k
theorem zq71 {A B : Prop} (k : B) (h : B → A := by exact s2 (s2 t4 (s2 t2 t1)) (by exact s2 (A1 rfl (C8 rfl H7 F2 zA J4 hp0 qz3)) (by exact s2 t1 (by exact L3 [0, 0, 0, 0, 0, 0, 0] 0 7 (nwZ w T L) (fun zz => nwZ zz.1 T L) rfl rfl rfl rfl call340 rfl rfl (Cu7 b w X T L t p0 g0 hw hq hT ht hpr.1 hx0) AJ2 (fun a => N3))))) : A := h k
theorem zq72 {p : Prop} (h : p := by refine zL [0, 0, 0, 0, 0, 0, 0, 0, 0] ?_;refine AWP.le (S6 7 (t := nwZ x38.1 T L) ((AZ7 htx hy).symm)) ?_;refine R5 ?_;exact G8 [0, 0, 0, 0, 0, 0, 0] 0 (nwZ x38.1 T L) (((x38.1, false), T)) (Bz6) rfl Bz2 M9) : p := h
theorem zq73 {A B : Prop} (k : B) (h : B → A := by exact B7 rfl rfl (u4 rfl zA zA AD9)) : A := h k
theorem zq74 {A B : Prop} (k : B) (h : B → A := by exact G1 (by' := 1) 3 rfl rfl rfl rfl y6 type4 rfl rfl rfl rfl rfl rfl zA zA rfl qz3) : A := h k
theorem zq75 {A B : Prop} (k : B) (h : B → A := by exact zI [0] rfl call136 (Ay1 _ _ hcode _ _ qz8 qz8) (A2 (A0 rfl) (A2 J4 B0)) rfl) : A := h k
theorem zq76 {A B : Prop} (k : B) (h : B → A := by exact s2 (O5 _ [(0, false), (1, false), (2, false), (3, true), (4, false)] E6 E6 rfl (S1 2)) (by exact s2 (s2 t2 t1) (by exact S8 rfl rfl rfl (P3 [2] rfl call82 rfl (Q6 _ _ hcode _ _ qz8 qz8) (A2 (A0 rfl) (A2 J4 B0)) rfl) (fun a _ => qz4)))) : A := h k
theorem zq77 {A B : Prop} (k : B) (h : B → A := by exact J8 rfl rfl rfl (X5 rfl zeroValue60 rfl) (fun a _ => qz4)) : A := h k
theorem zq78 {A B : Prop} (k : B) (h : B → A := by exact J8 rfl rfl rfl (P3 [] rfl call145 rfl (CD2 x7.2 x12.2 ok7.2.1 ok7.2.2 ok12.2.2 qz8) F4 rfl) (fun a _ => qz4)) : A := h k
theorem zq79 {A B : Prop} (k : B) (h : B → A := by exact J8 rfl rfl rfl (P3 [] rfl call145 rfl (Bq4 x7.2 x12.2 ok7.2.1 ok7.2.2 ok12.2.2 qz8) F4 rfl) (fun a _ => qz4)) : A := h k
theorem zq80 {A B : Prop} (k : B) (h : B → A := by exact s2 t1 (by exact J8 rfl rfl rfl (U8 4 (fun _ => rfl) (P3 [] rfl call208 rfl (AU6 w.Promised qz8) I4 rfl)) (fun a _ => qz4))) : A := h k
theorem zq81 {p : Prop} (h : p := by refine M4 1 rfl rfl rfl zA zA (L2 one_x89) rfl AV5 rfl ?_;refine R2 ?_;refine G6 Aa7 ?_;refine R6 ?_;exact I5 [2, 0] (x14.1, x89) (trivial) rfl B8 (j9 rfl D4 (I1 (F5 (ys := _) 3 rfl rfl Q1 M2 rfl) Z9))) : p := h
theorem zq82 {p : Prop} (h : p := by refine R7 ?_;exact I5 [0] v (trivial) rfl B8 M9) : p := h
theorem zq83 {A B : Prop} (k : B) (h : B → A := by exact s2 (s2 t4 t1) (by exact A1 rfl (zX hx))) : A := h k
theorem zq84 {p : Prop} (h : p := by exact G8 [1, 1, 1, 1, 1, 1, 1] 1 (nwZ w T L) (((w, false), T, L)) (qz7) rfl B8 (N4 rfl (A8 rfl B8))) : p := h
theorem zq85 {A B : Prop} (k : B) (h : B → A := by exact AK5 rfl rfl rfl (o7 2 rfl rfl zA zA (i3 _) rfl M3 rfl) (fun a _ => qz4)) : A := h k
theorem zq86 {A B : Prop} (k : B) (h : B → A := by exact S8 rfl rfl rfl (L9 (by' := 72) 1 rfl G9 type256 rfl rfl rfl rfl rfl rfl zA zA rfl CQ0) (fun a _ => qz4)) : A := h k
theorem zq87 {A B : Prop} (k : B) (h : B → A := by exact J8 rfl rfl rfl (L9 (by' := 40) 3 rfl D6 type322 rfl rfl rfl rfl rfl rfl zA zA rfl BU0) (fun a _ => qz4)) : A := h k
theorem zq88 {A B : Prop} (k : B) (h : B → A := by exact S8 rfl rfl rfl (L9 (by' := 40) 1 rfl F3 type82 rfl rfl rfl rfl rfl rfl zA zA rfl CP9) (fun a _ => qz4)) : A := h k
theorem zq89 {A B : Prop} (k : B) (h : B → A := by exact S8 rfl rfl rfl (L9 (by' := 24) 1 rfl J2 type62 rfl rfl rfl rfl rfl rfl zA zA rfl CQ0) (fun a _ => qz4)) : A := h k
theorem zq90 {A B : Prop} (k : B) (h : B → A := by exact s2 (A1 rfl (I3 1 rfl D6 K0 zA rfl zA qz8 Bs2)) (by exact A1 rfl (L5 1 rfl V4 rfl z7 zA rfl rfl (AK4 hA)))) : A := h k
theorem zq91 {p : Prop} (h : p := by refine AC8 3 1 2 rfl rfl N7 ?_;refine X3 256 5 ?_;refine X3 62 3 ?_;exact I5 [1, 0] ((E8), (E8)) (trivial) rfl B8 (j9 rfl D4 (I1 (F5 (ys := _) 5 rfl rfl Q1 M2 rfl) Z9))) : p := h
theorem zq92 {p : Prop} (h : p := by exact I5 [1] x13 (trivial) rfl CE7 (j9 rfl D4 (I1 (F5 (ys := _) 2 rfl rfl P5 E7 rfl) Z9))) : p := h
theorem zq93 {p : Prop} (h : p := by refine M4 2 rfl rfl rfl zA zA (L2 one_x89) rfl AV5 rfl ?_;refine R2 ?_;refine G6 Aa7 ?_;refine R6 ?_;exact I5 [1, 0] (x69, x89) (trivial) rfl B8 (j9 rfl D4 (I1 (F5 (ys := _) 3 rfl rfl Q1 M2 rfl) Z9))) : p := h
theorem zq94 {p : Prop} (h : p := by refine J6 rfl (fun hc => zG rfl Tryz.call78 (BW0 _) zS) ?_;refine R7 ?_;refine AC2 rfl rfl (Z4 rfl rfl rfl) (fun hc => zG rfl Tryz.call187 (Ai4 _) zS) ?_;refine R15 ?_;exact D5 rfl (A8 rfl Bz3)) : p := h
theorem zq95 {A B : Prop} (k : B) (h : B → A := by exact s2 t1 (by exact G6 qz9)) : A := h k
theorem zq96 {A B : Prop} (k : B) (h : B → A := by exact M0 rfl rfl rfl (fun ext => i6 (places := #[(0, 1), (1, 1), (2, 1), (3, 1)]) rfl AA9 zeroValue60 (fun w => by kernel_rfl) rfl (D7 zA (W9 _ _) (D7 zA (m4 _ _) (D7 zA (L2 one_x13) V1))) rfl)) : A := h k
theorem zq97 {A B : Prop} (k : B) (h : B → A := by exact L3 [1, 1, 1, 1, 1, 1, 1] 1 7 (nin B5.ow W'.Txns T ++ nin B9.ow W'.Looks L) (fun zz => nin B5.ow W'.Txns T ++ nin B9.ow W'.Looks L) rfl rfl rfl rfl call286 rfl rfl (hfr) F4 (fun a => N3)) : A := h k
theorem zq98 {A B : Prop} (k : B) (h : B → A := by exact s2 (A1 rfl (I3 1 rfl N6 V7 zA rfl J4 qz8 AL4)) (by exact A1 rfl (L5 1 rfl r7 rfl F2 zA rfl rfl Bk4))) : A := h k
theorem zq99 {p : Prop} (h : p := by exact ⟨by omega, fun i z hi hz => if e : k ≤ i then hinv.2 i z e hz else qz116⟩) : p := h
theorem zq100 {A B : Prop} (k : B) (h : B → A := by exact zF rfl Tryz.call116 (AZ5 _ qz8) (A2 (A0 rfl) B0)) : A := h k
theorem zq101 {A B : Prop} (k : B) (h : B → A := by exact s2 t4 (by exact zI [] rfl call209 (Av6 g hs) I4 rfl)) : A := h k
theorem zq102 {A B : Prop} (k : B) (h : B → A := by exact s2 (fun zvz => zL [0, 0, 0, 0, 0, 0, 0, 0, 0] zvz) (by exact AWP.le (S6 7 (t := nwZ w T L) ((AZ7 htx hy).symm)))) : A := h k
theorem zq103 {A B : Prop} (k : B) (h : B → A := by exact J8 rfl rfl rfl (AZ2 [7] (fun _ => rfl) (fun _ => K3 (C2 (i := 0) rfl) F6) (fun _ => N7) (L9 (by' := 48) 7 rfl U6 type112 rfl rfl rfl rfl rfl rfl zA zA rfl qz3)) (fun a _ => qz4)) : A := h k
theorem zq104 {A B : Prop} (k : B) (h : B → A := by exact s2 t2 (by exact s2 (A1 rfl (E3 rfl I2)) (by exact s2 t2 t1))) : A := h k
theorem zq105 {p : Prop} (h : p := by refine R5 ?_;exact D5 rfl (A8 rfl BQ5)) : p := h
theorem zq106 {A B : Prop} (k : B) (h : B → A := by exact s2 (s2 t4 t1) (by exact s2 (A1 rfl (zX hy)) (by exact t2))) : A := h k
theorem zq107 {p : Prop} (h : p := by refine zF rfl Tryz.call71 (Q0 _ _ _) AR2 ?_;refine R6 ?_;refine AC2 rfl rfl (Z4 rfl rfl rfl) (fun hc => zG rfl Tryz.call232 (Am1 _) zS) ?_;refine R15 ?_;exact D5 rfl (A8 rfl CQ2)) : p := h
theorem zq108 {p : Prop} (h : p := by refine R1 ?_;exact G8 [0, 0, 0, 0, 0, 0, 0] 0 (nin B5.ow W'.Txns T ++ nin B9.ow W'.Looks L) ((Aa5 W' x23)) (hd.trans (BE2 hd.wi ok23)) rfl B8 (j9 rfl D4 z8)) : p := h
theorem zq109 {p : Prop} (h : p := by refine R4 ?_;exact zq10) : p := h
theorem zq110 {A B : Prop} (k : B) (h : B → A := by exact s2 (P7 rfl rfl rfl (fun ext => w5 5 rfl zA rfl isAgg55 T5 qz2 D4)) (by exact S8 rfl rfl rfl (AC5 7 (P3 [7, 7] rfl call74 rfl (Cd4 w.Cuts tx y htk.sb) F4 rfl)) (fun a _ => qz4))) : A := h k
theorem zq111 {A B : Prop} (k : B) (h : B → A := by exact s2 (A1 rfl (i9 6 rfl zA rfl qz2 rfl)) (by exact A1 rfl (L5 6 rfl M1 rfl T7 zA rfl rfl qz2))) : A := h k
theorem zq112 {A B : Prop} (k : B) (h : B → A := by exact s2 (s2 t4 (s2 t2 t1)) (by exact s2 (A1 rfl (I3 1 rfl I0 L0 zA rfl zA qz8 AL4)) (by exact s2 (A1 rfl (L5 1 rfl AD8 rfl T7 zA rfl rfl qz5)) (by exact Z7 1 rfl rfl rfl zA Af6 (AX3 _) rfl T7 qz5 rfl)))) : A := h k
theorem zq113 {A B : Prop} (k : B) (h : B → A := by exact s2 (A1 rfl (w5 2 rfl zA rfl P5 E7 qz5 D4)) (by exact zF rfl call288 (AN8 gi hgi.good) I4)) : A := h k
theorem zq114 {p : Prop} (h : p := by exact Y9 rfl D4 (I1 (A8 rfl V5) (I1 (A8 rfl V5) z8))) : p := h
theorem zq115 {A B : Prop} (k : B) (h : B → A := by exact s2 (M6 5 E6 E6 rfl) (by exact s2 (s2 t2 t1) (by exact s2 (B7 rfl rfl (zG rfl call248 (Bj1 _ W5) (A2 (A0 rfl) B0))) (by exact s2 t2 (by exact G1 (by' := 72) 2 rfl rfl rfl rfl G9 type256 rfl rfl rfl rfl rfl rfl zA zA rfl Bk2))))) : A := h k
theorem zq116 {A B : Prop} (k : B) (h : B → A := by exact s2 (s2 t4 t2) (by exact J6 rfl (fun hc => zG rfl Tryz.call71 (Q0 _ _ _) zS))) : A := h k
theorem zq117 {A B : Prop} (k : B) (h : B → A := by exact s2 (A1 rfl (i6 (places := #[(0, 1), (1, 1), (2, 1)]) rfl Z0 zeroValue93 (fun w => by kernel_rfl) rfl (D7 zA (L2 one_v5) (D7 zA (W9 _ _) (D7 zA (W9 _ _) V1))) rfl)) (by exact t1)) : A := h k
theorem zq118 {A B : Prop} (k : B) (h : B → A := by exact s2 (G6 Ac5) (by exact s2 (fun zvz => zL [0, 4, 5] zvz) (by exact s2 (O5 _ [(0, false), (1, false), (2, false), (3, false), (4, false), (5, false), (6, false), (7, false), (8, false), (9, false), (10, false), (11, false), (12, false), (13, false), (14, false), (15, false), (16, false), (17, false), (18, false), (19, false), (20, false), (21, false), (22, true)] E6 E6 rfl (S1 2)) (by exact s2 (s2 t8 (s2 t4 t2)) (by exact s2 (P7 rfl rfl rfl (fun ext => I3 1 rfl N0 T5 zA rfl zA qz8 Aw0)) (by exact s2 (P7 rfl rfl rfl (fun ext => L5 1 rfl M1 rfl S3 zA rfl rfl qz2)) (by exact s2 (P7 rfl rfl rfl (fun ext => N5 1 rfl zA rfl AD6 qz2 rfl)) (by exact s2 (s2 t4 t1) (by exact S8 rfl rfl rfl (L9 (by' := 40) 2 rfl I8 type71 rfl rfl rfl rfl rfl rfl zA zA rfl qz3) (fun a _ => qz4)))))))))) : A := h k
theorem zq119 {A B : Prop} (k : B) (h : B → A := by exact s2 t4 (by exact AK5 rfl rfl rfl (o7 1 rfl rfl zA zA (i3 _) rfl M3 rfl) (fun a _ => qz4))) : A := h k
theorem zq120 {A B : Prop} (k : B) (h : B → A := by exact zI [0] rfl call82 (Q6 _ _ hcode _ _ AF3 qz8) (A2 (A0 rfl) (A2 (A0 rfl) B0)) rfl) : A := h k
theorem zq121 {A B : Prop} (k : B) (h : B → A := by exact G1 (by' := 16) 1 rfl rfl rfl rfl F0 type9 rfl rfl rfl rfl rfl rfl zA zA rfl qz3) : A := h k
theorem zq122 {A B : Prop} (k : B) (h : B → A := by exact s2 (M6 5 E6 E6 rfl) (by exact s2 (s2 t2 t1) (by exact s2 (B7 rfl rfl (zG rfl call209 (Bq3 g qz8) I4)) (by exact s2 t2 (by exact G1 (by' := 40) 2 rfl rfl rfl rfl H8 type93 rfl rfl rfl rfl rfl rfl zA zA rfl qz3))))) : A := h k
theorem zq123 {A B : Prop} (k : B) (h : B → A := by exact s2 (AWP.le (S6 3 (t := nin B6.ow (AF2 q x t) (fx v91)) ((hto v91).2.2))) (by exact t4)) : A := h k
theorem zq124 {A B : Prop} (k : B) (h : B → A := by exact s2 (A1 rfl (i9 6 rfl zA rfl qz0 rfl)) (by exact s2 (A1 rfl (L5 6 rfl Q3 rfl S3 zA rfl rfl qz0)) (by exact s2 (A1 rfl (N5 6 rfl zA rfl AD6 qz0 rfl)) (by exact s2 (s2 t4 t1) (by exact G1 (by' := 40) 7 rfl rfl rfl rfl I8 type71 rfl rfl rfl rfl rfl rfl zA zA rfl qz3))))) : A := h k
theorem zq125 {A B : Prop} (k : B) (h : B → A := by exact s2 (s2 t4 t2) (by exact s2 (zF rfl call65 (AZ6 _ W5) (A2 (A0 rfl) B0)) (by exact s2 t8 (by exact s2 (T6 rfl (fun hc => zG rfl call162 (BO1 _ W5) (A2 (A9 rfl hc) B0))) (by exact s2 t4 (s2 t2 t1)))))) : A := h k
theorem zq126 {A B : Prop} (k : B) (h : B → A := by exact s2 t1 (by exact B7 rfl rfl (BX4 rfl underlying82 E6 E6 zA zA (AE0 E6 AB8 rfl rfl (BL7 O3) (AE0 E6 AB8 rfl rfl (BL7 O3) (AE0 E6 AE5 rfl rfl (BA6 W4) BL5)))))) : A := h k
theorem zq127 {A B : Prop} (k : B) (h : B → A := by exact L3 [3, 3, 3, 3, 3, 3, 3] 3 7 (nwZ w T L) (fun zz => nwZ w T L) rfl rfl rfl rfl call237 rfl rfl (hput) (A2 zA (A2 zA (A2 (AY5 zA Av8) B0))) (fun a => N3)) : A := h k
theorem zq128 {A B : Prop} (k : B) (h : B → A := by exact L3 [2, 2, 2, 2, 2, 2, 2] 2 7 (nwZ w T L) (fun zz => nwZ w T L) rfl rfl rfl rfl call237 rfl rfl (hput) (A2 zA (A2 zA (A2 (AY5 zA Av8) B0))) (fun a => N3)) : A := h k
theorem zq129 {A B : Prop} (k : B) (h : B → A := by exact AWP.le (BF4 (t := 0) rfl)) : A := h k
theorem zq130 {p : Prop} (h : p := by exact ⟨by omega, by rw [hinv.2, J7 hx, AC0, Al4 hx hy (fun h0 => by simp_all), show r5 x = true by simp_all, Bool.true_and]⟩) : p := h
theorem zq131 {A B : Prop} (k : B) (h : B → A := by exact s2 (B7 rfl rfl (i9 6 rfl zA rfl qz0 rfl)) (by exact s2 (B7 rfl rfl (L5 6 rfl Q3 rfl AI8 zA rfl rfl qz0)) (by exact B7 rfl rfl (N5 6 rfl zA rfl isAgg25 qz0 rfl)))) : A := h k
theorem zq132 {A B : Prop} (k : B) (h : B → A := by exact zF rfl call71 (Q0 _ _ _) AR2) : A := h k
theorem zq133 {A B : Prop} (k : B) (h : B → A := by exact s2 t2 (by exact AC2 rfl rfl (Z4 rfl rfl rfl) (fun hc => Bk7 rfl (A9 rfl hc) (A9 rfl hc)))) : A := h k
theorem zq134 {A B : Prop} (k : B) (h : B → A := by exact s2 t4 (by exact L3 [0, 0, 0, 0, 0, 0, 0] 0 7 (nwZ w T L) (fun zz => nwZ zz T L) rfl rfl rfl rfl call319 rfl rfl (BM3 b w X T L t hw hT qz8) F4 (fun a => N3))) : A := h k
theorem zq135 {A B : Prop} (k : B) (h : B → A := by exact s2 (M6 8 E6 E6 rfl) (by exact s2 (s2 t4 (s2 t2 t1)) (by exact s2 (B7 rfl rfl (I3 4 rfl H8 E7 zA rfl zA qz8 AF3)) (by exact s2 t1 (by exact AB5 4 rfl rfl rfl zA zA (i3 _) rfl E7 rfl qz3))))) : A := h k
theorem zq136 {p : Prop} (h : p := by refine R3 ?_;exact zq10) : p := h
theorem zq137 {A B : Prop} (k : B) (h : B → A := by exact s2 (s2 t4 t2) (by exact s2 (zF rfl call127 (Bj2 (y8 t.Got) S.2.2 qz8 qz8) F4) (by exact s2 (zF rfl call126 (Bj3 cuts _ qz8) (A2 (A0 rfl) (A2 (A0 rfl) B0))) (by exact t16)))) : A := h k
theorem zq138 {p : Prop} (h : p := by refine R5 ?_;exact D5 rfl (A8 rfl CQ8)) : p := h
theorem zq139 {A B : Prop} (k : B) (h : B → A := by exact J6 rfl (fun hc => zG rfl Tryz.call102 (Ar8 _ _) zS)) : A := h k
theorem zq140 {A B : Prop} (k : B) (h : B → A := by exact s2 (B7 rfl rfl (i9 6 rfl zA rfl qz0 rfl)) (by exact s2 (B7 rfl rfl (L5 6 rfl Q3 rfl S3 zA rfl rfl qz0)) (by exact B7 rfl rfl (N5 6 rfl zA rfl AD6 qz0 rfl)))) : A := h k
theorem zq141 {p : Prop} (h : p := by exact G8 [1, 1, 1, 1, 1, 1, 1] 1 (nwZ w T L) () (trivial) rfl B8 (N4 rfl (F5 (ys := _) 0 rfl rfl isAgg276 sizeOf276 rfl))) : p := h
theorem zq142 {p : Prop} (h : p := by exact ⟨h2.1, h2.2, rfl, rfl⟩) : p := h
theorem zq143 {A B : Prop} (k : B) (h : B → A := by exact s2 (A1 rfl (i9 6 rfl zA rfl qz0 rfl)) (by exact s2 (A1 rfl (L5 6 rfl Q3 rfl F2 zA rfl rfl qz0)) (by exact A1 rfl (N5 6 rfl zA rfl Q4 qz0 rfl)))) : A := h k
theorem zq144 {A B : Prop} (k : B) (h : B → A := by exact zI [0] rfl call82 (Q6 _ _ hcode _ _ qz8 qz8) (A2 (A0 rfl) (A2 J4 B0)) rfl) : A := h k
theorem zq145 {A B : Prop} (k : B) (h : B → A := by exact zI [0] rfl call82 (Q6 _ _ hcode _ _ Aj1 qz8) (A2 (A0 rfl) (A2 J4 B0)) rfl) : A := h k
theorem zq146 {A B : Prop} (k : B) (h : B → A := by exact B7 rfl rfl (BX4 rfl Tryz.underlying62 E6 E6 zA zA (AE0 E6 Q4 rfl rfl (BL6 m7) (AE0 E6 AE5 rfl rfl (BA6 W4) (AE0 E6 Q4 rfl rfl (BL6 m7) BL5))))) : A := h k
theorem zq147 {A B : Prop} (k : B) (h : B → A := by exact s2 (A1 rfl (i9 6 rfl zA rfl qz2 rfl)) (by exact s2 (A1 rfl (L5 6 rfl M1 rfl F2 zA rfl rfl qz2)) (by exact Z7 6 rfl rfl rfl zA zA (W9 _ _) rfl F2 qz2 rfl))) : A := h k
theorem zq148 {A B : Prop} (k : B) (h : B → A := by exact s2 (M6 8 E6 E6 rfl) (by exact s2 (s2 t4 (s2 t2 t1)) (by exact s2 (B7 rfl rfl (I3 1 rfl H8 E7 zA rfl zA qz8 AL4)) (by exact s2 t1 (by exact AB5 1 rfl rfl rfl zA zA (i3 _) rfl E7 rfl AL4))))) : A := h k
theorem zq149 {A B : Prop} (k : B) (h : B → A := by exact s2 t2 (by exact A1 rfl (E3 rfl (J1 (l := []) rfl)))) : A := h k
theorem zq150 {p : Prop} (h : p := by refine R3 ?_;exact G8 [1, 1, 1, 1, 1, 1, 1] 2 (nwZ w T L) () (trivial) rfl B8 (N4 rfl (F5 (ys := _) 0 rfl rfl Q1 M2 rfl))) : p := h
theorem zq151 {p : Prop} (h : p := by refine R6 ?_;exact zq5) : p := h
theorem zq152 {p : Prop} (h : p := by exact ⟨_, rfl, ⟨_, rfl, i4.cons rfl (i4.cons ⟨fun h => Ab8, fun _ => ⟨_, _, rfl⟩⟩ (i4.nil _))⟩, hb⟩) : p := h
theorem zq153 {A B : Prop} (k : B) (h : B → A := by exact J8 rfl rfl rfl (U8 4 (fun _ => rfl) (Ai1 (by' := 8) 4 rfl T1 type101 rfl rfl rfl rfl rfl rfl zA (CA7 1 rfl zA) rfl qz3)) (fun a _ => qz4)) : A := h k
theorem zq154 {A B : Prop} (k : B) (h : B → A := by exact J8 rfl rfl rfl (AA1 rfl T1 AC9) (fun a _ => qz4)) : A := h k
theorem zq155 {p : Prop} (h : p := by refine R14 ?_;refine J6 rfl (fun hc => zG rfl Tryz.call232 (Am1 _) zS) ?_;refine R9 ?_;exact D5 rfl (A8 rfl CQ2)) : p := h
theorem zq156 {A B : Prop} (k : B) (h : B → A := by exact J6 rfl (fun hc => zG rfl Tryz.call45 (Z2 _ _ _) (A2 (A9 rfl hc) AP3))) : A := h k
theorem zq157 {A B : Prop} (k : B) (h : B → A := by exact J8 rfl rfl rfl (U8 3 (fun _ => rfl) (AC5 3 <| Aw9 rfl V2 y9 zeroValue325 rfl rfl rfl rfl (D7 zA (i3 _) V1) rfl rfl)) (fun a _ => qz4)) : A := h k
theorem zq158 {p : Prop} (h : p := by refine X3 141 3 ?_;exact I5 [0] (E8) (trivial) rfl CE7 (j9 rfl D4 (I1 (F5 (ys := _) 1 rfl rfl P5 E7 rfl) Z9))) : p := h
theorem zq159 {p : Prop} (h : p := by exact Y9 rfl D4 AW4) : p := h
theorem zq160 {p : Prop} (h : p := by exact Y9 rfl D4 (I1 (F5 (ys := _) 0 rfl rfl AQ0 O0 rfl) Z9)) : p := h
theorem zq161 {A B : Prop} (k : B) (h : B → A := by exact s2 (A1 rfl (w_mul rfl zA J4)) (by exact s2 t1 (by exact s2 (A1 rfl (Ap9 rfl E6 underlying84 zA)) (by exact s2 (A1 rfl (CF1 rfl zA zA)) (by exact A1 rfl (CF1 rfl zA J4)))))) : A := h k
theorem zq162 {A B : Prop} (k : B) (h : B → A := by exact s2 (M4 1 rfl rfl rfl zA zA (L2 one_v68_8) rfl S3 rfl) (by exact s2 t2 (by exact s2 (G6 qz9) (by exact s2 (s2 t2 t1) (by exact zI [] rfl call208 (AU6 t.Terms qz8) I4 rfl))))) : A := h k
theorem zq163 {p : Prop} (h : p := by refine R11 ?_;refine J6 rfl (fun hc => zG rfl Tryz.call187 (Ai4 _) zS) ?_;refine R9 ?_;exact D5 rfl (A8 rfl Bz3)) : p := h
theorem zq164 {p : Prop} (h : p := by refine R5 ?_;exact G8 [0, 0, 0, 0, 0, 0, 0] 0 (nwZ w T L) (((w, false), L)) (CQ6) rfl CQ7 (N4 rfl (A8 rfl B8))) : p := h
theorem zq165 {A B : Prop} (k : B) (h : B → A := by exact s2 (s2 t4 t2) (by exact s2 (A1 rfl (Ac0 rfl F0 K1 zA zA qz8 qz197)) (by exact s2 (s2 t4 (s2 t2 t1)) (by exact s2 (zF rfl call116 (AZ5 _ qz8) (A2 (A0 rfl) B0)) (by exact t8))))) : A := h k
theorem zq166 {p : Prop} (h : p := by exact D5 rfl (A8 rfl (by exact E5 AV.bool (by simp [hab])))) : p := h
theorem zq167 {A B : Prop} (k : B) (h : B → A := by exact J8 rfl rfl rfl (U8 7 (fun _ => rfl) (AC5 7 <| AE1 (by' := 8) rfl H7 type3 rfl rfl rfl rfl rfl rfl zA zA qz3 qz3)) (fun a _ => qz4)) : A := h k
theorem zq168 {A B : Prop} (k : B) (h : B → A := by exact B7 rfl rfl (zX hx)) : A := h k
theorem zq169 {A B : Prop} (k : B) (h : B → A := by exact A1 rfl (u4 rfl zA zA AD9)) : A := h k
theorem zq170 {A B : Prop} (k : B) (h : B → A := by exact zF rfl call211 (AG8 _ _) (A2 J4 I4)) : A := h k
theorem zq171 {A B : Prop} (k : B) (h : B → A := by exact P4 rfl rfl rfl rfl F3 K9) : A := h k
theorem zq172 {A B : Prop} (k : B) (h : B → A := by exact J8 rfl rfl rfl (U8 2 (fun _ => rfl) (L9 (by' := 8) 2 rfl T1 type101 rfl rfl rfl rfl rfl rfl zA zA rfl qz3)) (fun a _ => qz4)) : A := h k
theorem zq173 {A B : Prop} (k : B) (h : B → A := by exact J8 rfl rfl rfl (U8 2 (fun _ => rfl) (L9 (by' := 24) 2 rfl J2 type62 rfl rfl rfl rfl rfl rfl zA zA rfl Bb4)) (fun a _ => qz4)) : A := h k
theorem zq174 {A B : Prop} (k : B) (h : B → A := by exact s2 (s2 t2 t1) (by exact s2 (A1 rfl (E3 rfl (J1 (l := []) rfl))) (by exact A1 rfl (E3 rfl (X1 (sz := 3)))))) : A := h k
theorem zq175 {A B : Prop} (k : B) (h : B → A := by exact s2 t1 (by exact J8 rfl rfl rfl (U8 3 (fun _ => rfl) (AE1 (by' := 8) rfl T1 type101 rfl rfl rfl rfl rfl rfl zA zA qz3 qz3)) (fun a _ => qz4))) : A := h k
theorem zq176 {p : Prop} (h : p := by refine R4 ?_;refine zF rfl call142 (BJ5 _ qz8) (A2 (A0 rfl) B0) ?_;refine R8 ?_;exact D5 rfl (A8 rfl BM5)) : p := h
theorem zq177 {A B : Prop} (k : B) (h : B → A := by exact s2 (s2 t4 t2) (by exact zI [1] rfl call250 (BZ1 _ s.Held (Aj3 s.Held r.Txn) hlt2 qz8) (A2 (A0 rfl) (A2 (A0 rfl) (A2 (A0 rfl) B0))) rfl)) : A := h k
theorem zq178 {A B : Prop} (k : B) (h : B → A := by exact J8 rfl rfl rfl (U8 3 (fun _ => rfl) (AE1 (by' := 24) rfl U7 type96 rfl rfl rfl rfl rfl rfl zA zA qz3 qz3)) (fun a _ => qz4)) : A := h k
theorem zq179 {A B : Prop} (k : B) (h : B → A := by exact J8 rfl rfl rfl (U8 2 (fun _ => rfl) (AE1 (by' := 8) rfl T1 type101 rfl rfl rfl rfl rfl rfl zA zA qz3 qz3)) (fun a _ => qz4)) : A := h k
theorem zq180 {A B : Prop} (k : B) (h : B → A := by exact J8 rfl rfl rfl (U8 2 (fun _ => rfl) (AE1 (by' := 24) rfl U7 type96 rfl rfl rfl rfl rfl rfl zA zA qz3 qz3)) (fun a _ => qz4)) : A := h k
theorem zq181 {p : Prop} (h : p := by refine R9 ?_;exact I5 [1] v (trivial) rfl B8 (j9 rfl D4 (I1 (F5 (ys := _) 2 rfl rfl Q1 M2 rfl) Z9))) : p := h
theorem zq182 {A B : Prop} (k : B) (h : B → A := by exact s2 t2 (by exact s2 (V9 _ 21 (.pure 0 (.pure 1 (.pure 2 (.pure 3 (.pure 4 (.pure 5 (.pure 6 (.pure 7 (.pure 8 (.pure 9 (.pure 10 (.pure 11 (.pure 12 (.pure 13 (.pure 14 (.pure 15 (.pure 16 (.pure 17 (.pure 18 (.pure 19 (.e1 20 .nil))))))))))))))))))))) E6 E6 rfl (S1 8)) (by exact s2 (s2 t4 t2) (by exact s2 (M0 rfl rfl rfl (fun ext => I3 3 rfl H8 E7 zA rfl zA qz8 AF3)) (by exact s2 (M0 rfl rfl rfl (fun ext => L5 3 rfl Z0 rfl Ad7 zA rfl rfl qz5)) (by exact s2 (M0 rfl rfl rfl (fun ext => N5 3 rfl zA rfl isAgg91 qz5 rfl)) (by exact s2 (s2 t4 t2) (by exact s2 (M0 rfl rfl rfl (fun ext => I3 3 rfl H8 E7 zA rfl zA qz8 AF3)) (by exact s2 (M0 rfl rfl rfl (fun ext => L5 3 rfl Z0 rfl F2 zA rfl rfl qz5)) (by exact s2 (M0 rfl rfl rfl (fun ext => N5 3 rfl zA rfl Q4 qz5 rfl)) (by exact s2 (M0 rfl rfl rfl (fun ext => C8 rfl I0 L0 zA zA (AC3 hin) qz8)) (by exact s2 t2 (by exact J8 rfl rfl rfl (AC5 8 <| X5 rfl zeroValue141 rfl) (fun a _ => qz4)))))))))))))) : A := h k
theorem zq183 {p : Prop} (h : p := by refine R7 ?_;exact I5 [1, 3] (v, x13) (trivial) rfl B8 (N4 rfl (F5 (ys := _) 2 rfl rfl Q1 M2 rfl))) : p := h
theorem zq184 {A B : Prop} (k : B) (h : B → A := by exact J8 rfl rfl rfl (U8 3 (fun _ => rfl) (AE1 (by' := 8) rfl H7 type3 rfl rfl rfl rfl rfl rfl zA zA qz3 qz3)) (fun a _ => qz4)) : A := h k
theorem zq185 {A B : Prop} (k : B) (h : B → A := by exact J8 rfl rfl rfl (U8 2 (fun _ => rfl) (AE1 (by' := 8) rfl H7 type3 rfl rfl rfl rfl rfl rfl zA zA qz3 qz3)) (fun a _ => qz4)) : A := h k
theorem zq186 {A B : Prop} (k : B) (h : B → A := by exact A1 rfl (u4 rfl (J1 (l := [32]) rfl) zA AD9)) : A := h k
theorem zq187 {A B : Prop} (k : B) (h : B → A := by exact s2 (B7 rfl rfl (u4 rfl zA zA AD9)) (by exact B7 rfl rfl (u4 rfl zA (J1 (l := [32]) rfl) AD9))) : A := h k
theorem zq188 {A B : Prop} (k : B) (h : B → A := by exact s2 (s2 t4 (s2 t2 t1)) (by exact s2 (A1 rfl (w_shr rfl zA J4 D4 D4)) (by exact s2 (A1 rfl (w_band rfl zA J4)) (by exact s2 (A1 rfl (Ap9 rfl E6 m7 zA)) (by exact s2 t2 t1))))) : A := h k
theorem zq189 {A B : Prop} (k : B) (h : B → A := by exact s2 (s2 t4 t1) (by exact P7 rfl rfl rfl (fun ext => C8 rfl I0 L0 zA zA hx qz3))) : A := h k
theorem zq190 {p : Prop} (h : p := by refine R8 ?_;exact I5 [2] x17 (trivial) rfl qz153 (j9 rfl D4 (I1 (F5 (ys := _) 3 rfl rfl P5 E7 rfl) Z9))) : p := h
theorem zq191 {A B : Prop} (k : B) (h : B → A := by exact s2 (B7 rfl rfl (AY8 rfl AK1 Ak3 zA zA qz3 qz3)) (by exact s2 t2 (by exact s2 (B7 rfl rfl (AY8 rfl AK1 Ak3 zA zA qz3 qz3)) (by exact t1)))) : A := h k
theorem zq192 {A B : Prop} (k : B) (h : B → A := by exact s2 (A1 rfl (zX ht)) (by exact t2)) : A := h k
theorem zq193 {A B : Prop} (k : B) (h : B → A := by exact s2 (A1 rfl (zX hg)) (by exact t2)) : A := h k
end Go.AV
namespace Go.M
open Go.AV
abbrev Str := List UInt8
@[reducible] def strs (l : List Str) : AV := AV.list 1 (l.map fun s => [AV.str s])
@[reducible] def ints (l : List Int) : AV := AV.list 1 (l.map fun s => [AV.int s])
def C9 {α : Type} (f : α → Nat) (l : List α) : Nat := l.length + (l.map f).sum
def szR (n : Nat) (left : Int) : Int := if left < n then -1 else left - n
theorem sum_le {α : Type} (f : α → Nat) : ∀ (l : List α) (i : Nat) (x : α), l[i]? = some x → ((l.take i).map f).sum + f x ≤ (l.map f).sum
  | [], i, x, h => by simp at h
  | y :: l, 0, x, h => by simp at h; subst h; simp
  | y :: l, i + 1, x, h => by
    have := sum_le f l i x Aj4;simp only [BD1, j4, List.sum_cons]; omega
theorem Av0 {α : Type} {f : α → Nat} {l : List α} {x : α} (h : x ∈ l) : f x ≤ C9 f l := by
  obtain ⟨i, hi⟩ := i7 h;have := sum_le f l i x hi;unfold C9; omega
theorem O2 {α : Type} {f : α → Nat} {l : List α} : l.length ≤ C9 f l := by unfold C9; omega
theorem Y4 {α : Type} {f : α → Nat} {l : List α} {i : Nat} {x : α} (h : l[i]? = some x) : f x ≤ C9 f l := Av0 (C2 h)
theorem DI3 {α : Type} {a b : List α} {i : Nat} (hl : a.length = b.length) (h : a.take i = b.take i) (hi : a.length ≤ i) : a = b := by
  rwa [T4 hi, T4 qz8] at h
theorem Cm7 {α : Type} {a b : List α} {i : Nat} {x : α} (h : a.take i = b.take i) (ha : a[i]? = some x) (hb : b[i]? = some x) : a.take (i + 1) = b.take (i + 1) := by
  rw [W1, W1, h, ha, hb]
theorem Ai2 {α : Type} [Inhabited α] (l : List α) (i : Nat) : ∃ y, i < l.length → l[i]? = some y := ⟨l[i]?.getD default, fun h => by rw [P2 h]; rfl⟩
def bs {α : Type} (f : α → Int) (l : List α) (i j : Nat) : Nat :=
  if i < j then
    match l[(i + j) / 2]? with
    | some x => if f x < 0 then bs f l ((i + j) / 2 + 1) j else bs f l i ((i + j) / 2)
    | none => i
  else i
termination_by j - i
def Am9 {α : Type} (f : α → Int) (l : List α) (n : Nat) : Bool :=
  match l[n]? with
  | some x => f x == 0
  | none => false
theorem bs_lo {α : Type} {f : α → Int} {l : List α} {i j : Nat} {x : α} (h : i < j) (hx : l[(i + j) / 2]? = some x) (hf : f x < 0) : bs f l i j = bs f l ((i + j) / 2 + 1) j := by
  rw [bs, D3 h, hx]; simp only [hf, if_true]
theorem bs_hi {α : Type} {f : α → Int} {l : List α} {i j : Nat} {x : α} (h : i < j) (hx : l[(i + j) / 2]? = some x) (hf : ¬ f x < 0) : bs f l i j = bs f l i ((i + j) / 2) := by
  rw [bs, D3 h, hx]; simp only [hf, if_false]
theorem Cm8 {α : Type} {f : α → Int} {l : List α} {i j : Nat} (h : ¬ i < j) : bs f l i j = i := by rw [bs, C5 h]
theorem half_eq {i j : Nat} (h : i + j ≤ 9223372036854775807) : IntKind.i64.wrap (IntKind.u64.wrap ((i : Int) + (j : Int)) / 2 ^ ((1 : Int).toNat)) = ((i + j) / 2 : Nat) := by
  have h1 : IntKind.u64.wrap ((i : Int) + (j : Int)) = (i : Int) + (j : Int) := by simp only [IntKind.wrap, IntKind.bits, IntKind.signed]; simp; omega
  rw [h1];have h2 : ((i : Int) + (j : Int)) / 2 ^ ((1 : Int).toNat) = (((i + j) / 2 : Nat) : Int) := by
    show ((i : Int) + (j : Int)) / 2 = _
    omega
  rw [h2];exact BU2 qz8
def idxFrom {α : Type} (p : α → Bool) : List α → Int → Int
  | [], _ => -1
  | x :: xs, k => if p x then k else idxFrom p xs (k + 1)
theorem BU9 {α : Type} (p : α → Bool) : ∀ (l : List α) (k : Int), 0 ≤ k → decide (0 ≤ idxFrom p l k) = l.any p
  | [], _, _ => rfl
  | x :: xs, k, h => by
    unfold idxFrom
    cases hp : p x with
    | true => simp [hp]; exact h
    | false => simp [hp, BU9 p xs (k + 1) qz8]
theorem ins_grow {α β : Type} {f : α → β} {l : List α} {x : α} {i : Nat} {Z : List β} (hi : i ≤ l.length) (hZ : Z.length = l.length + 1 - i) : (l.take i ++ x :: l.drop i).map f =
    ((((l.map f).take i ++ Z).take i ++ [f x] ++ ((l.map f).take i ++ Z).drop (i + [f x].length)).take (i + 1) ++ (l.map f).drop i ++ (((l.map f).take i ++ Z).take i ++ [f x] ++ ((l.map f).take i ++ Z).drop (i + [f x].length)).drop (i + 1 + ((l.map f).drop i).length)) := by
  have h1 : ((l.map f).take i).length = i := by simp; omega
  have hA : ((l.map f).take i ++ Z).take i = (l.map f).take i := List.take_left' h1;have h2 : ((l.map f).take i ++ [f x]).length = i + 1 := by simp; omega
  rw [hA, List.take_left' h2];have hB : ((l.map f).take i ++ [f x] ++ ((l.map f).take i ++ Z).drop (i + [f x].length)).length ≤ i + 1 + ((l.map f).drop i).length := by
    simp only [G3, H4, A7, I9, Q8, AD4, hZ]; omega
  rw [n5 hB];simp [List.map_take, List.map_drop]
theorem DS3 {α β : Type} {f : α → β} {l : List α} {x : α} {i : Nat} (hi : i < l.length) : (l.take i ++ x :: l.drop i).map f =
    ((l.map f).take (i + 1) ++ (l.map f).drop i).take i ++ [f x] ++ ((l.map f).take (i + 1) ++ (l.map f).drop i).drop (i + [f x].length) := by
  have h1 : ((l.map f).take (i + 1)).length = i + 1 := by simp; omega
  rw [List.take_append_of_le_length qz8, List.take_take, Nat.min_eq_left qz8, show i + [f x].length = i + 1 from rfl, List.drop_left' h1];simp [List.map_take, List.map_drop]
theorem DS4 {α : Type} {p : α → Bool} {cs : α → List AV} {l : List α} {i : Nat} {x : α} (hx : l[i]? = some x) (hp : p x = true) : ((l.take i).filter p).map cs ++ [cs x] = ((l.take (i + 1)).filter p).map cs := by
  rw [W1, hx, List.filter_append, X8]; simp [hp]
theorem DS5 {α : Type} {p : α → Bool} {cs : α → List AV} {l : List α} {i : Nat} {x : α} (hx : l[i]? = some x) (hp : p x = false) : ((l.take i).filter p).map cs = ((l.take (i + 1)).filter p).map cs := by
  rw [W1, hx, List.filter_append, X8]; simp [hp]
structure U4 where
  Off : Int
deriving DecidableEq, Inhabited
def U4.cs (c : U4) : List AV := [AV.int c.Off]
theorem U4.flat (c : U4) : ∀ x ∈ c.cs, Flat x := (I6 (n8 _ _) V6)
def U4.size (c : U4) : Nat := 0
structure A5 where
  Key : Str
  Val : Str
  Gone : Bool
deriving DecidableEq, Inhabited
def A5.cs (c : A5) : List AV := [AV.str c.Key, AV.str c.Val, AV.bool c.Gone]
theorem A5.flat (c : A5) : ∀ x ∈ c.cs, Flat x := (I6 (AA8 _) (I6 (AA8 _) (I6 (U2 _) V6)))
def A5.size (c : A5) : Nat := c.Key.length + c.Val.length
def A5.ok (c : A5) : Prop := c.Key.length ≤ 9223372036854775807 ∧ c.Val.length ≤ 9223372036854775807
structure N9 where
  Kind : Int
  Txn : Int
  Time : Int
  Lead : Int
  Reads : List Str
  Writes : List A5
  Yes : Bool
deriving DecidableEq, Inhabited
def N9.cs (c : N9) : List AV := [AV.int c.Kind, AV.int c.Txn, AV.int c.Time, AV.int c.Lead, strs c.Reads, AV.list 3 (c.Writes.map A5.cs), AV.bool c.Yes]
def N9.size (c : N9) : Nat := C9 (fun x => x.length) c.Reads + C9 A5.size c.Writes
def N9.ok (c : N9) : Prop := (∀ x ∈ c.Reads, x.length ≤ 9223372036854775807) ∧ (∀ x ∈ c.Writes, x.ok)
structure K4 where
  Term : Int
  Rec : N9
deriving DecidableEq, Inhabited
def K4.cs (c : K4) : List AV := [AV.int c.Term, AV.int c.Rec.Kind, AV.int c.Rec.Txn, AV.int c.Rec.Time, AV.int c.Rec.Lead, strs c.Rec.Reads, AV.list 3 (c.Rec.Writes.map A5.cs), AV.bool c.Rec.Yes]
def K4.size (c : K4) : Nat := c.Rec.size
def K4.ok (c : K4) : Prop := c.Rec.ok
structure F7 where
  Up : Bool
  Log : List K4
  Sure : Int
deriving DecidableEq, Inhabited
def F7.cs (c : F7) : List AV := [AV.bool c.Up, AV.list 8 (c.Log.map K4.cs), AV.int c.Sure]
def F7.size (c : F7) : Nat := C9 K4.size c.Log
def F7.ok (c : F7) : Prop := (∀ x ∈ c.Log, x.ok)
structure D0 where
  Reps : List F7
  Term : Int
  Lead : Int
deriving DecidableEq, Inhabited
def D0.cs (c : D0) : List AV := [AV.list 3 (c.Reps.map F7.cs), AV.int c.Term, AV.int c.Lead]
def D0.size (c : D0) : Nat := C9 F7.size c.Reps
def D0.ok (c : D0) : Prop := (∀ x ∈ c.Reps, x.ok)
structure H3 where
  Key : Str
  Txn : Int
  Write : Bool
deriving DecidableEq, Inhabited
def H3.cs (c : H3) : List AV := [AV.str c.Key, AV.int c.Txn, AV.bool c.Write]
theorem H3.flat (c : H3) : ∀ x ∈ c.cs, Flat x := (I6 (AA8 _) (I6 (n8 _ _) (I6 (U2 _) V6)))
def H3.size (c : H3) : Nat := c.Key.length
def H3.ok (c : H3) : Prop := c.Key.length ≤ 9223372036854775807
structure Y8 where
  Time : Int
  Val : Str
  Gone : Bool
deriving DecidableEq, Inhabited
def Y8.cs (c : Y8) : List AV := [AV.int c.Time, AV.str c.Val, AV.bool c.Gone]
theorem Y8.flat (c : Y8) : ∀ x ∈ c.cs, Flat x := (I6 (n8 _ _) (I6 (AA8 _) (I6 (U2 _) V6)))
def Y8.size (c : Y8) : Nat := c.Val.length
def Y8.ok (c : Y8) : Prop := c.Val.length ≤ 9223372036854775807
structure B6 where
  Key : Str
  Vers : List Y8
deriving DecidableEq, Inhabited
def B6.cs (c : B6) : List AV := [AV.str c.Key, AV.list 3 (c.Vers.map Y8.cs)]
def B6.size (c : B6) : Nat := c.Key.length + C9 Y8.size c.Vers
def B6.ok (c : B6) : Prop := c.Key.length ≤ 9223372036854775807 ∧ (∀ x ∈ c.Vers, x.ok)
structure D2 where
  Txn : Int
  Time : Int
  Lead : Int
  Reads : List Str
  Writes : List A5
deriving DecidableEq, Inhabited
def D2.cs (c : D2) : List AV := [AV.int c.Txn, AV.int c.Time, AV.int c.Lead, strs c.Reads, AV.list 3 (c.Writes.map A5.cs)]
def D2.size (c : D2) : Nat := C9 (fun x => x.length) c.Reads + C9 A5.size c.Writes
def D2.ok (c : D2) : Prop := (∀ x ∈ c.Reads, x.length ≤ 9223372036854775807) ∧ (∀ x ∈ c.Writes, x.ok)
structure G7 where
  Txn : Int
  Yes : Bool
  Time : Int
deriving DecidableEq, Inhabited
def G7.cs (c : G7) : List AV := [AV.int c.Txn, AV.bool c.Yes, AV.int c.Time]
theorem G7.flat (c : G7) : ∀ x ∈ c.cs, Flat x := (I6 (n8 _ _) (I6 (U2 _) (I6 (n8 _ _) V6)))
def G7.size (c : G7) : Nat := 0
structure E9 where
  Floor : Int
  Cells : List B6
  Held : List D2
  Told : List G7
deriving DecidableEq, Inhabited
def E9.cs (c : E9) : List AV := [AV.int c.Floor, AV.list 2 (c.Cells.map B6.cs), AV.list 5 (c.Held.map D2.cs), AV.list 3 (c.Told.map G7.cs)]
def E9.size (c : E9) : Nat := C9 B6.size c.Cells + C9 D2.size c.Held + c.Told.length
def E9.ok (c : E9) : Prop := (∀ x ∈ c.Cells, x.ok) ∧ (∀ x ∈ c.Held, x.ok)
structure Az0 where
  Low : Int
  High : Int
deriving DecidableEq, Inhabited
def Az0.cs (c : Az0) : List AV := [AV.int c.Low, AV.int c.High]
theorem Az0.flat (c : Az0) : ∀ x ∈ c.cs, Flat x := (I6 (n8 _ _) (I6 (n8 _ _) V6))
def Az0.size (c : Az0) : Nat := 0
structure Ah9 where
  Txn : Int
  Reads : List Str
  Writes : List A5
deriving DecidableEq, Inhabited
def Ah9.cs (c : Ah9) : List AV := [AV.int c.Txn, strs c.Reads, AV.list 3 (c.Writes.map A5.cs)]
def Ah9.size (c : Ah9) : Nat := C9 (fun x => x.length) c.Reads + C9 A5.size c.Writes
def Ah9.ok (c : Ah9) : Prop := (∀ x ∈ c.Reads, x.length ≤ 9223372036854775807) ∧ (∀ x ∈ c.Writes, x.ok)
structure BT0 where
  Cuts : List Str
  States : List E9
  Orders : List Ah9
deriving DecidableEq, Inhabited
def BT0.cs (c : BT0) : List AV := [strs c.Cuts, AV.list 4 (c.States.map E9.cs), AV.list 3 (c.Orders.map Ah9.cs)]
def BT0.size (c : BT0) : Nat := C9 (fun x => x.length) c.Cuts + C9 E9.size c.States + C9 Ah9.size c.Orders
def BT0.ok (c : BT0) : Prop := (∀ x ∈ c.Cuts, x.length ≤ 9223372036854775807) ∧ (∀ x ∈ c.States, x.ok) ∧ (∀ x ∈ c.Orders, x.ok)
structure TOp where
  Kind : Int
  Key : Str
  Val : Str
  By : Int
deriving DecidableEq, Inhabited
def TOp.cs (c : TOp) : List AV := [AV.int c.Kind, AV.str c.Key, AV.str c.Val, AV.int c.By]
theorem TOp.flat (c : TOp) : ∀ x ∈ c.cs, Flat x := (I6 (n8 _ _) (I6 (AA8 _) (I6 (AA8 _) (I6 (n8 _ _) V6))))
def TOp.size (c : TOp) : Nat := c.Key.length + c.Val.length
def TOp.ok (c : TOp) : Prop := c.Key.length ≤ 9223372036854775807 ∧ c.Val.length ≤ 9223372036854775807
structure F9 where
  Key : Str
  Val : Str
  There : Bool
deriving DecidableEq, Inhabited
def F9.cs (c : F9) : List AV := [AV.str c.Key, AV.str c.Val, AV.bool c.There]
theorem F9.flat (c : F9) : ∀ x ∈ c.cs, Flat x := (I6 (AA8 _) (I6 (AA8 _) (I6 (U2 _) V6)))
def F9.size (c : F9) : Nat := c.Key.length + c.Val.length
def F9.ok (c : F9) : Prop := c.Key.length ≤ 9223372036854775807 ∧ c.Val.length ≤ 9223372036854775807
structure B5 where
  Ops : List TOp
  Got : List F9
  Terms : List Int
  Begin : Int
  End : Int
  Yes : Bool
  Time : Int
  Dead : Bool
  Put : Bool
  Stopped : Bool
deriving DecidableEq, Inhabited
def B5.cs (c : B5) : List AV := [AV.list 4 (c.Ops.map TOp.cs), AV.list 3 (c.Got.map F9.cs), ints c.Terms, AV.int c.Begin, AV.int c.End, AV.bool c.Yes, AV.int c.Time, AV.bool c.Dead, AV.bool c.Put, AV.bool c.Stopped]
def B5.size (c : B5) : Nat := C9 TOp.size c.Ops + C9 F9.size c.Got + c.Terms.length
def B5.ok (c : B5) : Prop := (∀ x ∈ c.Ops, x.ok) ∧ (∀ x ∈ c.Got, x.ok)
structure B9 where
  Node : Int
  Keys : List Str
  Got : List F9
  Time : Int
  Begin : Int
  End : Int
deriving DecidableEq, Inhabited
def B9.cs (c : B9) : List AV := [AV.int c.Node, strs c.Keys, AV.list 3 (c.Got.map F9.cs), AV.int c.Time, AV.int c.Begin, AV.int c.End]
def B9.size (c : B9) : Nat := C9 (fun x => x.length) c.Keys + C9 F9.size c.Got
def B9.ok (c : B9) : Prop := (∀ x ∈ c.Keys, x.length ≤ 9223372036854775807) ∧ (∀ x ∈ c.Got, x.ok)
structure D1 where
  Now : Int
  Count : Int
  Clocks : List U4
  Cuts : List Str
  Groups : List D0
  Locks : List (List H3)
  Promised : List Int
  Txns : List B5
  Looks : List B9
deriving DecidableEq, Inhabited
def D1.cs (c : D1) : List AV := [AV.int c.Now, AV.int c.Count, AV.list 1 (c.Clocks.map U4.cs), strs c.Cuts, AV.list 3 (c.Groups.map D0.cs), AV.list 1 (c.Locks.map fun x => [AV.list 3 (x.map H3.cs)]), ints c.Promised, AV.list 10 (c.Txns.map B5.cs), AV.list 6 (c.Looks.map B9.cs)]
def D1.size (c : D1) : Nat := c.Clocks.length + C9 (fun x => x.length) c.Cuts + C9 D0.size c.Groups + C9 (fun x => C9 H3.size x) c.Locks + c.Promised.length + C9 B5.size c.Txns + C9 B9.size c.Looks
def D1.ok (c : D1) : Prop := (∀ x ∈ c.Cuts, x.length ≤ 9223372036854775807) ∧ (∀ x ∈ c.Groups, x.ok) ∧ (∀ x ∈ c.Locks, (∀ y ∈ x, y.ok)) ∧ (∀ x ∈ c.Txns, x.ok) ∧ (∀ x ∈ c.Looks, x.ok)
structure Z8 where
  Kind : Int
  At : Int
  By : Int
deriving DecidableEq, Inhabited
def Z8.cs (c : Z8) : List AV := [AV.int c.Kind, AV.int c.At, AV.int c.By]
theorem Z8.flat (c : Z8) : ∀ x ∈ c.cs, Flat x := (I6 (n8 _ _) (I6 (n8 _ _) (I6 (n8 _ _) V6)))
def Z8.size (c : Z8) : Nat := 0
structure E0 where
  Txn : Int
  Begin : Int
  End : Int
  Yes : Bool
  Look : Bool
  Time : Int
  Got : List F9
  Writes : List A5
deriving DecidableEq, Inhabited
def E0.cs (c : E0) : List AV := [AV.int c.Txn, AV.int c.Begin, AV.int c.End, AV.bool c.Yes, AV.bool c.Look, AV.int c.Time, AV.list 3 (c.Got.map F9.cs), AV.list 3 (c.Writes.map A5.cs)]
def E0.size (c : E0) : Nat := C9 F9.size c.Got + C9 A5.size c.Writes
def E0.ok (c : E0) : Prop := (∀ x ∈ c.Got, x.ok) ∧ (∀ x ∈ c.Writes, x.ok)
structure Ad9 where
  Ver : Int
  Cuts : List Str
  Groups : List Int
deriving DecidableEq, Inhabited
def Ad9.cs (c : Ad9) : List AV := [AV.int c.Ver, strs c.Cuts, ints c.Groups]
def Ad9.size (c : Ad9) : Nat := C9 (fun x => x.length) c.Cuts + c.Groups.length
def Ad9.ok (c : Ad9) : Prop := (∀ x ∈ c.Cuts, x.length ≤ 9223372036854775807)
structure AG2 where
  Time : Int
  Group : Int
  Key : Str
  Val : Str
  Gone : Bool
deriving DecidableEq, Inhabited
def AG2.cs (c : AG2) : List AV := [AV.int c.Time, AV.int c.Group, AV.str c.Key, AV.str c.Val, AV.bool c.Gone]
theorem AG2.flat (c : AG2) : ∀ x ∈ c.cs, Flat x := (I6 (n8 _ _) (I6 (n8 _ _) (I6 (AA8 _) (I6 (AA8 _) (I6 (U2 _) V6)))))
def AG2.size (c : AG2) : Nat := c.Key.length + c.Val.length
def AG2.ok (c : AG2) : Prop := c.Key.length ≤ 9223372036854775807 ∧ c.Val.length ≤ 9223372036854775807
structure Az1 where
  Name : Str
  Col : Int
  Stage : Int
deriving DecidableEq, Inhabited
def Az1.cs (c : Az1) : List AV := [AV.str c.Name, AV.int c.Col, AV.int c.Stage]
theorem Az1.flat (c : Az1) : ∀ x ∈ c.cs, Flat x := (I6 (AA8 _) (I6 (n8 _ _) (I6 (n8 _ _) V6)))
def Az1.size (c : Az1) : Nat := c.Name.length
def Az1.ok (c : Az1) : Prop := c.Name.length ≤ 9223372036854775807
def within (n lo hi : Int) : Bool := decide (lo ≤ n) && decide (n ≤ hi)
def Ai0 (b : UInt8) : Bool := (decide ((97 : Int) ≤ (b.toNat : Int)) && decide ((b.toNat : Int) ≤ 122)) || (decide ((48 : Int) ≤ (b.toNat : Int)) && decide ((b.toNat : Int) ≤ 57))
def Bh3 (s : Str) (c : UInt8) : Int := firstIdx ⟨s.toArray⟩ c
def hasB (s o : Str) : Bool := s.all fun c => !(!Ai0 c && decide (Bh3 o c < 0))
def q6 (s : Str) : Bool := within s.length 1 12 && hasB s [46, 47]
def AO9 (s : Str) : Bool := decide ((s.length : Int) ≤ 24) && hasB s [46, 45, 44, 95]
def AP0 (s o : Str) : Bool := s.all fun c => (Ai0 c || o.any fun d => ((c.toNat : Int) == (d.toNat : Int)))
def r5 (s : Str) : Bool := within s.length 1 12 && AP0 s [46, 47]
theorem CX8 (c : UInt8) (s o : Str) : hasB (c :: s) o = (!(!Ai0 c && decide (Bh3 o c < 0)) && hasB s o) := rfl
theorem Bm0 (c : UInt8) (s o : Str) : AP0 (c :: s) o = ((Ai0 c || o.any fun d => ((c.toNat : Int) == (d.toNat : Int))) && AP0 s o) := rfl
theorem idxB_neg (o : Str) (c : UInt8) : decide (Bh3 o c < 0) = !(o.any fun d => ((c.toNat : Int) == (d.toNat : Int))) := by
  have hm : (o.any fun d => ((c.toNat : Int) == (d.toNat : Int))) = decide (c ∈ o) := by
    rw [AW7];simp only [List.any_eq_true, i8, H5];constructor
    · rintro ⟨d, hd, he⟩
      have : c = d := UInt8.toNat_inj.1 (by exact_mod_cast he);exact this ▸ hd
    · intro h; exact ⟨c, h, rfl⟩
  rw [hm];unfold Bh3 firstIdx;have hsz : (ByteArray.mk o.toArray).size = o.length := by simp [ByteArray.size]
  have hget : ∀ i, i < o.length → (ByteArray.mk o.toArray)[i]! = o[i]! := fun i hi => by
    simp [getElem!_def, ByteArray.getElem?_lt', hsz, hi];rfl
  rw [hsz]
  cases hf : (List.range o.length).find? fun i => (ByteArray.mk o.toArray)[i]! == c with
  | some i =>
    have h1 := List.find?_some hf;have h2 := List.mem_range.1 (Ah2 hf);rw [hget i h2] at h1;have h3 : c ∈ o := by
      have : o[i]! = c := by simpa using h1
      rw [← this, getElem!_pos o i h2];exact List.getElem_mem h2
    simp [h3]
  | none =>
    have h1 := List.find?_eq_none.1 hf;have h3 : ¬ c ∈ o := fun hm => by
      obtain ⟨i, hi, he⟩ := List.getElem_of_mem hm;have := h1 i (List.mem_range.2 hi);rw [hget i hi, getElem!_pos o i hi, he] at this;simp at this
    simp [h3]
theorem BX7 (s o : Str) : hasB s o = AP0 s o := by
  unfold hasB AP0;congr 1
  funext c
  rw [idxB_neg]
  cases Ai0 c <;> simp
theorem AA2 (s : Str) : q6 s = r5 s := by unfold q6 r5; rw [BX7]
theorem M5 : ∀ a : Str, Op.bytesLess a a = false
  | [] => rfl
  | a :: x => by simp [Op.bytesLess, M5 x]
theorem j8 : ∀ a b : Str, Op.bytesLess a b = !(Op.bytesLess b a || b == a)
  | [], [] => rfl
  | [], _ :: _ => rfl
  | _ :: _, [] => rfl
  | a :: x, b :: y => by
    have ih := j8 x y;simp only [Op.bytesLess];by_cases hab : a = b
    · subst hab
      simp [ih]
    · have h1 : (a == b) = false := by simpa using hab
      have h2 : (b == a) = false := by simpa using fun h => hab h.symm
      have h3 : (b :: y == a :: x) = false := by simp [h2]
      simp only [h1, h2, h3, Bool.false_and, Bool.or_false];rw [AW7];simp only [H5, q7, AH1, UInt8.not_lt];constructor
      · exact UInt8.le_of_lt
      · exact fun h => UInt8.lt_of_le_of_ne h hab
def adj {α : Type} (p : α → α → Bool) : List α → Bool
  | [] => true
  | [_] => true
  | x :: y :: l => p x y && adj p (y :: l)
theorem Cm9 {α : Type} {l : List α} {k : Nat} {x y : α} (hy : l[k]? = some y) (hx : l[k + 1]? = some x) : l.drop k = y :: x :: l.drop (k + 2) := by
  rw [Go.AV.J7 hy, Go.AV.J7 hx]
theorem Al4 {α : Type} {p : α → α → Bool} {l : List α} {i : Nat} {x y : α} (hx : l[i]? = some x) (hy : l[i - 1]? = some y) (h : 0 < i → p y x = true) : adj p (l.drop (i - 1)) = adj p (l.drop (i + 1 - 1)) := by
  cases i with
  | zero => rfl
  | succ k =>
    simp only [Nat.add_sub_cancel] at *;rw [Cm9 hy hx, Go.AV.J7 hx, adj, h qz8, Bool.true_and]
theorem Al5 {α : Type} {p : α → α → Bool} {l : List α} {i : Nat} {x y : α} (hx : l[i]? = some x) (hy : l[i - 1]? = some y) (h0 : 0 < i) (h : p y x = false) : adj p (l.drop (i - 1)) = false := by
  cases i with
  | zero => omega
  | succ k =>
    simp only [Nat.add_sub_cancel] at *;rw [Cm9 hy hx, adj, h, Bool.false_and]
theorem Av1 {α : Type} {p : α → α → Bool} {l : List α} {i : Nat} (h : l.length ≤ i) : adj p (l.drop (i - 1)) = true := by
  have hl : (l.drop (i - 1)).length ≤ 1 := by rw [AD4]; omega
  match hd : l.drop (i - 1), hl with
  | [], _ => rfl
  | [x], _ => rfl
def Aa0 (t : Int) : Bool := within t 1 100000
def AE2 (val : Str) (gone : Bool) : Bool := AO9 val && !(gone && val != [])
def AO3 (s : Str) : Bool := decide ((s.length : Int) ≤ 24) && AP0 s [46, 45, 44, 95]
def AY0 (key val : Str) (gone : Bool) : Bool := r5 key && AO3 val && (!gone || val == [])
def AR0 (x y : Int) : Int := if x < y then -1 else if y < x then 1 else 0
def BG3 (x y : Str) : Int := if Op.bytesLess x y then -1 else if Op.bytesLess y x then 1 else 0
theorem Bd8 (s : Str) : AO9 s = AO3 s := by unfold AO9 AO3; rw [BX7]
theorem AU5 (s : Str) (g : Bool) : AE2 s g = (AO3 s && (!g || s == [])) := by
  unfold AE2; rw [Bd8]; cases g <;> simp [bne]
theorem At6 {α : Type} {p : α → Bool} {l : List α} {i : Nat} {x : α} (hx : l[i]? = some x) (h : p x = true) : (l.drop i).all p = (l.drop (i + 1)).all p := by
  rw [Go.AV.J7 hx, AC0, h, Bool.true_and]
theorem At7 {α : Type} {p : α → Bool} {l : List α} {i : Nat} {x : α} (hx : l[i]? = some x) (h : p x = false) : (l.drop i).all p = false := by
  rw [Go.AV.J7 hx, AC0, h, Bool.false_and]
theorem BA8 {α : Type} {p : α → Bool} {l : List α} {i : Nat} (h : l.length ≤ i) : (l.drop i).all p = true := by
  rw [n5 h]; rfl
theorem AS1 {α β : Type} {f : α → β} {l : List α} {i : Nat} {x : α} (h : l[i]? = some x) : (l.take i).map f ++ [f x] = (l.take (i + 1)).map f := by
  rw [W1, h]; simp
def o8 (l : List Str) : Bool := l.all q6 && adj Op.bytesLess l
def T8 (l : List A5) : List Str := l.map A5.Key
def AH6 (l : List A5) : Bool := decide ((l.length : Int) ≤ 24) && o8 (T8 l) && !(l.any fun w => !AE2 w.Val w.Gone)
def T9 (a b : A5) : Bool := Op.bytesLess a.Key b.Key
def AJ8 (w : A5) : Bool := AY0 w.Key w.Val w.Gone
def AM4 (l : List A5) : Bool := (l.all AJ8 && adj T9 l) && decide ((l.length : Int) ≤ 24)
theorem Bt2 {α β : Type} (f : α → β) (p : β → β → Bool) : ∀ l : List α, adj p (l.map f) = adj (fun a b => p (f a) (f b)) l
  | [] => rfl
  | [_] => rfl
  | x :: y :: l => by
    have := Bt2 f p (y :: l);simp only [j4, adj] at *;rw [this]
theorem AX5 (l : List A5) : AH6 l = AM4 l := by
  unfold AH6 AM4 o8 T8;rw [Bt2, List.all_map, List.not_any_eq_all_not];have h2 : l.all AJ8 = ((l.all (q6 ∘ A5.Key)) && l.all fun w => AO3 w.Val && (!w.Gone || w.Val == [])) := by
    induction l with
    | nil => rfl
    | cons w l ih =>
      simp only [AC0, ih, AJ8, AY0, Function.comp, AA2, Bool.and_assoc]
      cases r5 w.Key <;> cases AO3 w.Val <;> cases (!w.Gone || w.Val == []) <;> simp only [Bool.true_and, Bool.and_true, Bool.false_and, Bool.and_false]
  have h1 : (l.all fun w => !!AE2 w.Val w.Gone) = l.all fun w => AO3 w.Val && (!w.Gone || w.Val == []) := by
    congr 1; funext w; rw [Bool.not_not, AU5]
  rw [h1, h2];show _ = _
  have h3 : adj (fun a b => Op.bytesLess a.Key b.Key) l = adj T9 l := rfl;rw [h3]
  cases l.all (q6 ∘ A5.Key) <;> cases adj T9 l <;> cases decide ((l.length : Int) ≤ 24) <;> cases (l.all fun w => AO3 w.Val && (!w.Gone || w.Val == [])) <;> rfl
def AS6 (n : Int) : Bool := within n 1 60
def Bh4 (r : N9) : Bool := ((r.Lead == 0) && ((r.Reads.length : Int) == 0)) && ((r.Writes.length : Int) == 0)
def BE5 (r : N9) : Bool := (((((((AS6 r.Txn && Aa0 r.Time) && within r.Lead 0 3) && decide ((r.Reads.length : Int) ≤ 8)) && o8 r.Reads) && decide ((r.Writes.length : Int) ≤ 8)) && AH6 r.Writes) && decide (0 < (r.Reads.length : Int) + (r.Writes.length : Int))) && !r.Yes
def Bu3 (r : N9) : Bool := (Bh4 r && AS6 r.Txn) && ((r.Yes && Aa0 r.Time) || (!r.Yes && (r.Time == 0)))
def Ck0 (r : N9) : Bool := ((Bh4 r && (r.Txn == 0)) && Aa0 r.Time) && !r.Yes
def T2 (r : N9) : Bool := if r.Kind = 1 then BE5 r else if r.Kind = 2 ∨ r.Kind = 3 then Bu3 r else if r.Kind = 4 then Ck0 r else false
def Ba3 (l : List Str) : Bool := (l.all r5 && adj Op.bytesLess l) && decide ((l.length : Int) ≤ 8)
def BH6 (r : N9) : Bool := (r.Kind != 1) && ((r.Lead != 0) || decide (0 < (r.Reads.length : Int) + (r.Writes.length : Int)))
def l4G1 (r : N9) : Bool := ((((((within r.Txn 1 60 && within r.Time 1 100000) && within r.Lead 0 3) && Ba3 r.Reads) && AM4 r.Writes) && within (r.Writes.length : Int) 0 8) && decide (0 < (r.Reads.length : Int) + (r.Writes.length : Int))) && !r.Yes
def l4G2 (r : N9) : Bool := within r.Txn 1 60 && ((r.Yes && within r.Time 1 100000) || (!r.Yes && (r.Time == 0)))
def l4G4 (r : N9) : Bool := (((r.Kind == 4) && (r.Txn == 0)) && within r.Time 1 100000) && !r.Yes
def BG4 (r : N9) : Bool := if BH6 r = true then false else if r.Kind = 1 then l4G1 r else if r.Kind = 2 ∨ r.Kind = 3 then l4G2 r else l4G4 r
theorem bare_odd {r : N9} (h : r.Kind ≠ 1) : Bh4 r = !BH6 r := by
  have hk : (r.Kind != 1) = true := by simpa using h
  unfold Bh4 BH6;rw [hk, Bool.true_and, AW7];simp only [D8, i8, q7, AE4, bne_eq_false_iff_eq, AH1];omega
theorem keys_eq (l : List Str) : (decide ((l.length : Int) ≤ 8) && o8 l) = Ba3 l := by
  unfold o8 Ba3;rw [show l.all q6 = l.all r5 by congr 1; funext s; rw [AA2]];rw [Bool.and_comm]
theorem Ax0 (r : N9) : T2 r = BG4 r := by
  unfold T2 BG4;by_cases h1 : r.Kind = 1
  · have ho : BH6 r = false := by unfold BH6; rw [h1]; rfl
    rw [D3 h1, ho, C5 D4, D3 h1];unfold BE5 l4G1;rw [← keys_eq, ← AX5];have hw : within (r.Writes.length : Int) 0 8 = decide ((r.Writes.length : Int) ≤ 8) := by unfold within; simp
    rw [hw];unfold AS6 Aa0
    cases within r.Txn 1 60 <;> cases within r.Time 1 100000 <;> cases within r.Lead 0 3 <;> cases decide ((r.Reads.length : Int) ≤ 8) <;> cases o8 r.Reads <;> cases decide ((r.Writes.length : Int) ≤ 8) <;> cases AH6 r.Writes <;> simp
  · have hb := bare_odd h1
    rw [C5 h1, C5 h1];by_cases h2 : r.Kind = 2 ∨ r.Kind = 3
    · rw [D3 h2, D3 h2]
      unfold Bu3 l4G2;rw [hb]
      cases BH6 r <;> simp [AS6, Aa0]
    · rw [C5 h2, C5 h2]
      unfold l4G4;by_cases h4 : r.Kind = 4
      · rw [D3 h4]
        unfold Ck0;rw [hb, h4]
        cases BH6 r <;> simp [Aa0]
      · rw [C5 h4]
        have e4 : (r.Kind == 4) = false := by simpa using h4
        rw [e4]; cases BH6 r <;> simp
structure GoodR (r : N9) : Prop where
  kind : 1 ≤ r.Kind ∧ r.Kind ≤ 4
  txn : 0 ≤ r.Txn ∧ r.Txn ≤ 60
  time : 0 ≤ r.Time ∧ r.Time ≤ 100000
  lead : 0 ≤ r.Lead ∧ r.Lead ≤ 3
  reads : r.Reads.length ≤ 8 ∧ ∀ s ∈ r.Reads, r5 s = true
  writes : r.Writes.length ≤ 8 ∧ ∀ w ∈ r.Writes, r5 w.Key = true ∧ AO3 w.Val = true ∧ (w.Gone = true → w.Val = [])
theorem CX9 {r : N9} (h : Bh4 r = true) : r.Lead = 0 ∧ r.Reads = [] ∧ r.Writes = [] := by
  unfold Bh4 at h;simp only [D8, i8] at h;exact ⟨h.1.1, Ar9 qz8, Ar9 qz8⟩
theorem goodR {r : N9} (h : T2 r = true) : GoodR r := by
  unfold T2 at h;split at h
  · rename_i hk
    unfold BE5 AS6 Aa0 within at h
    simp only [D8, H5] at h;obtain ⟨⟨⟨⟨⟨⟨⟨⟨h1, h2⟩, h3⟩, h4⟩, h5⟩, h6⟩, h7⟩, _⟩, _⟩ := h;rw [AX5] at h7;unfold AM4 at h7;unfold o8 at h5;simp only [D8, Y6] at h5 h7;refine ⟨by omega, by omega, by omega, by omega, ⟨by omega, fun s hs => by rw [← AA2]; exact h5.1 s hs⟩, ⟨by omega, fun w hw => ?_⟩⟩;have := h7.1.1 w hw;unfold AJ8 AY0 at this;simp only [D8, AB1, q7] at this;exact ⟨this.1.1, this.1.2, fun e => by rcases this.2 with g | g; rw [e] at g; cases g; simpa using g⟩
  · split at h
    · rename_i hk
      unfold Bu3 AS6 Aa0 within at h
      simp only [D8, AB1, H5, i8, q7] at h;obtain ⟨⟨h1, h2⟩, h3⟩ := h;obtain ⟨l1, l2, l3⟩ := CX9 h1;refine ⟨by omega, by omega, by omega, by omega, by rw [l2]; exact ⟨E2 _, fun s hs => by cases hs⟩, by rw [l3]; exact ⟨E2 _, fun s hs => by cases hs⟩⟩
    · split at h
      · rename_i hk
        unfold Ck0 Aa0 within at h
        simp only [D8, H5, i8, q7] at h;obtain ⟨⟨⟨h1, h2⟩, h3⟩, _⟩ := h;obtain ⟨l1, l2, l3⟩ := CX9 h1;refine ⟨by omega, by omega, by omega, by omega, by rw [l2]; exact ⟨E2 _, fun s hs => by cases hs⟩, by rw [l3]; exact ⟨E2 _, fun s hs => by cases hs⟩⟩
      · cases h
theorem CG6 {s : Str} (h : r5 s = true) : s.length ≤ 12 := by
  unfold r5 within at h
  simp only [D8, H5] at h;have := h.1; omega
theorem DI4 {s : Str} (h : AO3 s = true) : s.length ≤ 24 := by
  unfold AO3 at h;simp only [D8, H5] at h;have := h.1; omega
set_option linter.unusedSectionVars false
section
variable {α : Type} [Inhabited α]
structure Swo (lt : α → α → Bool) : Prop where
  asym : ∀ a b, lt a b = true → lt b a = false
  ntr : ∀ a b c, lt b a = false → lt c b = false → lt c a = false
def InR (l : List α) (a b : Nat) (x : α) : Prop := ∃ i, a ≤ i ∧ i < b ∧ l[i]? = some x
structure Shuf (l l' : List α) (a b : Nat) : Prop where
  len : l'.length = l.length
  perm : l'.Perm l
  out : ∀ i, i < a ∨ b ≤ i → l'[i]? = l[i]?
  inn : ∀ x, InR l' a b x → InR l a b x
end
section
variable {α : Type} [Inhabited α] [DecidableEq α]
def AS4 (l : List α) : Nat → List α
  | 0 => []
  | n + 1 => if n ≠ 0 ∧ l[n]? = l[n - 1]? then AS4 l n else AS4 l n ++ (l[n]?).toList
def cmpL (l : List α) : List α := AS4 l l.length
theorem Cn0 (l : List α) : ∀ n, (AS4 l n).length ≤ n
  | 0 => N2 _
  | n + 1 => by
    have h := Cn0 l n;show (if n ≠ 0 ∧ l[n]? = l[n - 1]? then AS4 l n else AS4 l n ++ (l[n]?).toList).length ≤ n + 1
    split
    · omega
    · rw [G3]
      cases l[n]? <;> simp <;> omega
theorem CY0 {l : List α} {n : Nat} (h0 : n ≠ 0) (h : l[n]? = l[n - 1]?) : AS4 l (n + 1) = AS4 l n := D3 ⟨h0, h⟩
theorem CY1 {l : List α} {n : Nat} {x : α} (hx : l[n]? = some x) (h : n = 0 ∨ l[n]? ≠ l[n - 1]?) : AS4 l (n + 1) = AS4 l n ++ [x] := by
  show (if n ≠ 0 ∧ l[n]? = l[n - 1]? then AS4 l n else AS4 l n ++ (l[n]?).toList) = _
  rw [C5 (fun e => h.elim (fun f => e.1 f) fun f => f e.2), hx]; rfl
theorem BR7 {l : List α} : ∀ {n : Nat}, n ≤ l.length → (∀ i, 1 ≤ i → i < n → l[i]? ≠ l[i - 1]?) → AS4 l n = l.take n
  | 0, _, _ => by rw [List.take_zero]; rfl
  | n + 1, hn, h => by
    have hx : l[n]? = some l[n] := P2 qz8;rw [CY1 hx (by by_cases e : n = 0; exact .inl e; exact .inr (h n qz8 qz8)), BR7 qz8 (fun i h1 h2 => h i h1 qz8), W1, hx]; rfl
theorem Bm1 {m l : List α} {i j : Nat} {x : α} (h : m.drop i = l.drop i) (hx : l[j]? = some x) (hij : i ≤ j) : m[j]? = some x := by
  have h1 := E5 (fun z : List α => z[j - i]?) h;simp only [AW5, show i + (j - i) = j by omega] at h1;rw [h1, hx]
theorem cmp_keep {l m : List α} {k i j : Nat} {x y : α} (h : 1 ≤ j ∧ k + j ≤ l.length ∧ i + 1 ≤ k + j ∧ m.length = l.length ∧ m.take i = AS4 l (k + j) ∧ m.drop (k + j - 1) = l.drop (k + j - 1)) (hlt : k + j < l.length) (hx : l[k + j]? = some x) (hy : l[k + j - 1]? = some y) (hn : x ≠ y) :
    1 ≤ j + 1 ∧ k + (j + 1) ≤ l.length ∧ i + 1 + 1 ≤ k + (j + 1) ∧ (m.set i x).length = l.length ∧ (m.set i x).take (i + 1) = AS4 l (k + (j + 1)) ∧ (m.set i x).drop (k + (j + 1) - 1) = l.drop (k + (j + 1) - 1) := by
  obtain ⟨h1, h2, h3, h4, h5, h6⟩ := h;refine ⟨by omega, by omega, by omega, by rw [Z1, h4], ?_, ?_⟩
  · rw [W1, AZ9 qz8, List.take_set_of_le (N2 _), h5, ← Nat.add_assoc, CY1 hx (.inr (by rw [hx, hy]; intro e; injection e with e; exact hn e))]; rfl
  · rw [List.drop_set_of_lt qz8, show k + (j + 1) - 1 = k + j - 1 + 1 by omega, ← List.drop_drop, h6, List.drop_drop]
theorem cmp_skip {l m : List α} {k i j : Nat} {x y : α} (h : 1 ≤ j ∧ k + j ≤ l.length ∧ i + 1 ≤ k + j ∧ m.length = l.length ∧ m.take i = AS4 l (k + j) ∧ m.drop (k + j - 1) = l.drop (k + j - 1)) (hlt : k + j < l.length) (hx : l[k + j]? = some x) (hy : l[k + j - 1]? = some y) (hn : x = y) :
    1 ≤ j + 1 ∧ k + (j + 1) ≤ l.length ∧ i + 1 ≤ k + (j + 1) ∧ m.length = l.length ∧ m.take i = AS4 l (k + (j + 1)) ∧ m.drop (k + (j + 1) - 1) = l.drop (k + (j + 1) - 1) := by
  obtain ⟨h1, h2, h3, h4, h5, h6⟩ := h;refine ⟨by omega, by omega, by omega, h4, ?_, ?_⟩
  · rw [h5, ← Nat.add_assoc, CY0 qz8 (by rw [hx, hy, hn])]
  · rw [show k + (j + 1) - 1 = k + j - 1 + 1 by omega, ← List.drop_drop, h6, List.drop_drop]
theorem cmp_end {l m : List α} {f : α → List AV} {k i j q : Nat} {z : List AV} (h : m.take i = AS4 l (k + j)) (hk : k + j = l.length) (hi : i ≤ m.length) : (((m.map f).take (i : Int).toNat ++ List.replicate q z).take (i : Int).toNat) = (cmpL l).map f := by
  unfold cmpL;rw [← hk, ← h, AA4, List.map_take, List.take_left' (by rw [H4, A7]; omega)]
end
theorem W0 : ∀ {a b c : Str}, Op.bytesLess a b = true → Op.bytesLess b c = true → Op.bytesLess a c = true
  | [], b, c, h1, h2 => by
    cases c with
    | nil => cases b <;> simp [Op.bytesLess] at h2
    | cons z c => rfl
  | x :: a, [], _, h1, _ => by simp [Op.bytesLess] at h1
  | x :: a, y :: b, [], _, h2 => by simp [Op.bytesLess] at h2
  | x :: a, y :: b, z :: c, h1, h2 => by
    simp only [Op.bytesLess, AB1, D8, H5, i8] at h1 h2 ⊢;rcases h1 with h1 | ⟨h1, h1'⟩
    · rcases h2 with h2 | ⟨h2, _⟩
      · exact .inl (UInt8.lt_trans h1 h2)
      · subst h2; exact .inl h1
    · subst h1
      rcases h2 with h2 | ⟨h2, h2'⟩
      · exact .inl h2
      · exact .inr ⟨h2, W0 h1' h2'⟩
theorem Ao0 (a b : Str) : BG3 a b < 0 ↔ Op.bytesLess a b = true := by
  unfold BG3
  cases h1 : Op.bytesLess a b
  · cases h2 : Op.bytesLess b a <;> simp
  · simp
theorem BV0 (a b : Str) : BG3 a b = 0 ↔ a = b := by
  unfold BG3;have h3 := j8 a b
  cases h1 : Op.bytesLess a b
  · cases h2 : Op.bytesLess b a
    · rw [h1, h2] at h3; simp at h3; simp [h3]
    · simp; intro h; subst h; rw [h1] at h2; cases h2
  · simp; intro h; subst h; rw [M5] at h1; cases h1
theorem Bt3 {α : Type} {p : α → α → Bool} (tr : ∀ a b c, p a b = true → p b c = true → p a c = true) : ∀ {l : List α} {x : α}, adj p (x :: l) = true → ∀ y ∈ l, p x y = true
  | [], _, _, y, hy => by simp at hy
  | z :: l, x, h, y, hy => by
    simp only [adj, D8] at h;rcases T0.1 hy with rfl | hy
    · exact h.1
    · exact tr _ _ _ h.1 (Bt3 tr h.2 y hy)
theorem Bd9 {α : Type} {p : α → α → Bool} {l : List α} {x : α} (h : adj p (x :: l) = true) : adj p l = true := by
  cases l with
  | nil => rfl
  | cons y l => simp only [adj, D8] at h; exact h.2
theorem Ac8 {α : Type} {p : α → α → Bool} (tr : ∀ a b c, p a b = true → p b c = true → p a c = true) : ∀ {l : List α}, adj p l = true → ∀ {i j : Nat} {x y : α}, i < j → l[i]? = some x → l[j]? = some y → p x y = true
  | [], _, i, j, x, y, _, hx, _ => by simp at hx
  | z :: l, h, 0, j + 1, x, y, _, hx, hy => by
    simp at hx; subst hx;exact Bt3 tr h y (C2 BC9)
  | z :: l, h, i + 1, j + 1, x, y, hij, hx, hy => Ac8 tr (Bd9 h) (by omega : i < j) AT1 BC9
theorem CR3 {α : Type} (f : α → Int) (l : List α) (down : ∀ (i j : Nat) (x y : α), i < j → l[i]? = some x → l[j]? = some y → f y < 0 → f x < 0) : ∀ (d i j : Nat), j - i = d → i ≤ j → j ≤ l.length →
    (∀ k x, k < i → l[k]? = some x → f x < 0) → (∀ x, l[j]? = some x → ¬ f x < 0) → (∀ k x, k < bs f l i j → l[k]? = some x → f x < 0) ∧ (∀ x, l[bs f l i j]? = some x → ¬ f x < 0) := by
  intro d;induction d using Nat.strongRecOn with
  | _ d ih =>
    intro i j hd hij hjl hlo hhi;by_cases h : i < j
    · obtain ⟨x, hx⟩ := Go.AV.B3 (show (i + j) / 2 < l.length by omega)
      by_cases hf : f x < 0
      · rw [bs_lo h hx hf]
        refine ih (j - ((i + j) / 2 + 1)) qz8 _ _ rfl qz8 hjl (fun k y hk hy => ?_) hhi;rcases Nat.lt_or_ge k ((i + j) / 2) with h1 | h1
        · exact down k _ y x h1 hy hx hf
        · have : k = (i + j) / 2 := by omega
          subst this;rw [hx] at hy; injection hy with hy; subst hy; exact hf
      · rw [bs_hi h hx hf]
        exact ih ((i + j) / 2 - i) qz8 _ _ rfl qz8 qz8 hlo (fun y hy => by rw [hx] at hy; injection hy with hy; subst hy; exact hf)
    · rw [Cm8 h]
      have : i = j := by omega
      subst this;exact ⟨hlo, hhi⟩
def Bq9 (k : Str) (w : A5) : Int := BG3 w.Key k
def Ae0 (l : List A5) (k : Str) : Nat := bs (Bq9 k) l 0 l.length
def BC0 (l : List A5) (k : Str) : Bool := Am9 (Bq9 k) l (Ae0 l k)
theorem AI6 (a b c : A5) (h : T9 a b = true) (k : T9 b c = true) : T9 a c = true := W0 h k
theorem CY2 {l : List A5} (h : adj T9 l = true) (k : Str) : (∀ i x, i < Ae0 l k → l[i]? = some x → Op.bytesLess x.Key k = true) ∧ (∀ x, l[Ae0 l k]? = some x → Op.bytesLess x.Key k = false) := by
  have := CR3 (Bq9 k) l (fun i j x y hij hx hy hf => by
    unfold Bq9 at *;rw [Ao0] at *;exact W0 (Ac8 AI6 h hij hx hy) hf) l.length 0 l.length rfl (E2 _) (N2 _) (fun k x hk => by omega) (fun x hx => by rw [AT6 (N2 _)] at hx; cases hx)
  refine ⟨fun i x hi hx => (Ao0 _ _).1 (this.1 i x hi hx), fun x hx => ?_⟩;have h2 := this.2 x hx;unfold Bq9 at h2;rw [Ao0] at h2;simpa using h2
def findW (l : List A5) (k : Str) : Option A5 := l.find? fun w => w.Key == k
theorem findW_eq {l : List A5} (h : adj T9 l = true) (k : Str) : findW l k = if BC0 l k = true then l[Ae0 l k]? else none := by
  obtain ⟨h1, h2⟩ := CY2 h k;have hat : ∀ w ∈ l, w.Key = k → l[Ae0 l k]? = some w := fun w hw he => by
    obtain ⟨i, hi⟩ := i7 hw;rcases Nat.lt_trichotomy i (Ae0 l k) with hlt | heq | hgt
    · have := h1 i w hlt hi
      rw [he, M5] at this; cases this
    · rw [← heq]; exact hi
    · obtain ⟨y, hy⟩ := Go.AV.B3 (show Ae0 l k < l.length by have := (G2.1 hi).1; omega)
      have h3 := h2 y hy;have h4 := Ac8 AI6 h hgt hy hi;unfold T9 at h4;rw [he, h3] at h4; cases h4
  unfold BC0 Am9 findW
  cases hp : l[Ae0 l k]? with
  | none =>
    simp only [Bool.false_eq_true, if_false];rw [List.find?_eq_none];intro w hw;simp only [i8];intro he;have := hat w hw he;rw [hp] at this; cases this
  | some y =>
    simp only [Bq9, i8, BV0];by_cases hk : y.Key = k
    · rw [D3 hk]
      cases hf : l.find? fun w => w.Key == k with
      | none =>
        have := List.find?_eq_none.1 hf y (C2 hp);simp [hk] at this
      | some w =>
        have h5 := List.find?_some hf;have h6 := hat w (Ah2 hf) (by simpa using h5);rw [hp] at h6; exact h6.symm
    · rw [C5 hk, List.find?_eq_none]
      intro w hw;simp only [i8];intro he;have := hat w hw he;rw [hp] at this; injection this with this; subst this; exact hk he
def ins : List A5 → A5 → List A5
  | [], w => [w]
  | x :: l, w => if Op.bytesLess x.Key w.Key = true then x :: ins l w else if x.Key = w.Key then w :: l else w :: x :: l
theorem Bm2 {w : A5} : ∀ {l : List A5} {p : Nat}, p ≤ l.length → (∀ i x, i < p → l[i]? = some x → Op.bytesLess x.Key w.Key = true) → (∀ x, l[p]? = some x → Op.bytesLess x.Key w.Key = false) →
    ins l w = if (∃ x, l[p]? = some x ∧ x.Key = w.Key) then l.set p w else l.take p ++ w :: l.drop p
  | [], p, hp, _, _ => by simp at hp; subst hp; simp [ins]
  | x :: l, 0, _, _, h2 => by
    have h := h2 x rfl;unfold ins;rw [h];by_cases hk : x.Key = w.Key
    · rw [C5 D4, D3 hk, D3 ⟨x, rfl, hk⟩]; rfl
    · rw [C5 D4, C5 hk, C5 (fun ⟨y, hy, hyk⟩ => by simp at hy; subst hy; exact hk hyk)]; rfl
  | x :: l, p + 1, hp, h1, h2 => by
    have h := h1 0 x qz8 rfl;unfold ins;rw [D3 h, Bm2 (l := l) (p := p) (by simpa using hp) (fun i y hi hy => h1 (i + 1) y qz8 BC9) (fun y hy => h2 y BC9)];simp only [BQ9, BD0, BD1, BI4];split <;> simp
def CE0 (l : List A5) (w : A5) : List A5 := if BC0 l w.Key = true then l.set (Ae0 l w.Key) w else l.take (Ae0 l w.Key) ++ w :: l.drop (Ae0 l w.Key)
theorem DE5 {p : Prop} (h : p := by
  intro d;induction d using Nat.strongRecOn with
  | _ d ih =>
    intro i j hd hij hjl;by_cases h : i < j
    · obtain ⟨x, hx⟩ := Go.AV.B3 (show (i + j) / 2 < l.length by omega)
      by_cases hf : f x < 0
      · rw [bs_lo h hx hf]
        exact ih (j - ((i + j) / 2 + 1)) qz8 _ _ rfl qz8 hjl
      · rw [bs_hi h hx hf]
        exact L4 (ih ((i + j) / 2 - i) qz8 _ _ rfl qz8 qz8) qz8
    · rw [Cm8 h]; exact hij) : p := h
theorem bs_le {α : Type} (f : α → Int) (l : List α) : ∀ (d i j : Nat), j - i = d → i ≤ j → j ≤ l.length → bs f l i j ≤ j := DE5
theorem DE6 (l : List A5) (k : Str) : Ae0 l k ≤ l.length := bs_le _ _ _ _ _ rfl (E2 _) (N2 _)
theorem BN3 {l : List A5} {k : Str} : BC0 l k = true ↔ ∃ x, l[Ae0 l k]? = some x ∧ x.Key = k := by
  unfold BC0 Am9
  cases h : l[Ae0 l k]? with
  | none => simp
  | some x => simp [Bq9, BV0]
theorem putW_ins {l : List A5} (h : adj T9 l = true) (w : A5) : CE0 l w = ins l w := by
  obtain ⟨h1, h2⟩ := CY2 h w.Key;rw [Bm2 (DE6 l w.Key) h1 h2];unfold CE0;by_cases hw : BC0 l w.Key = true
  · rw [D3 hw, D3 (BN3.1 hw)]
  · rw [C5 hw, C5 (fun h => hw (BN3.2 h))]
def AM5 (l : List A5) (k : Str) : Nat → Nat
  | 0 => 0
  | n + 1 => match l[n]? with
    | some x => if Op.bytesLess k x.Key = true then AM5 l k n else n + 1
    | none => n + 1
def CW1 (l : List A5) (k : Str) : Nat → Bool
  | 0 => false
  | n + 1 => match l[n]? with
    | some x => x.Key == k
    | none => false
def Ah5 (l : List A5) (w : A5) : List A5 :=
  if CW1 l w.Key (AM5 l w.Key l.length) = true then l.set (AM5 l w.Key l.length - 1) w else l.take (AM5 l w.Key l.length) ++ w :: l.drop (AM5 l w.Key l.length)
theorem Cn1 (l : List A5) (k : Str) : ∀ n, AM5 l k n ≤ n
  | 0 => N2 _
  | n + 1 => by
    unfold AM5;split
    · split
      · exact Nat.le_succ_of_le (Cn1 l k n)
      · exact N2 _
    · exact N2 _
theorem CG7 (l : List A5) (k : Str) : ∀ n, n ≤ l.length → (∀ i x, AM5 l k n ≤ i → i < n → l[i]? = some x → Op.bytesLess k x.Key = true) ∧ (∀ x, 0 < AM5 l k n → l[AM5 l k n - 1]? = some x → Op.bytesLess k x.Key = false)
  | 0, _ => ⟨fun i x h1 h2 => by omega, fun x h => by simp [AM5] at h⟩
  | n + 1, hn => by
    obtain ⟨x, hx⟩ := Go.AV.B3 (show n < l.length by omega);have ih := CG7 l k n qz8;unfold AM5;simp only [hx];by_cases hb : Op.bytesLess k x.Key = true
    · rw [D3 hb]
      refine ⟨fun i y h1 h2 hy => ?_, ih.2⟩;rcases Nat.lt_or_ge i n with h3 | h3
      · exact ih.1 i y h1 h3 hy
      · have : i = n := by omega
        subst this;rw [hx] at hy; injection hy with hy; subst hy; exact hb
    · rw [C5 hb]
      refine ⟨fun i y h1 h2 hy => by omega, fun y _ hy => ?_⟩;rw [Nat.add_sub_cancel, hx] at hy; injection hy with hy; subst hy
      simpa using hb
theorem CY3 {l : List A5} (h : adj T9 l = true) (w : A5) : Ah5 l w = ins l w := by
  obtain ⟨h1, h2⟩ := CG7 l w.Key l.length (N2 _);have hle := Cn1 l w.Key l.length;unfold Ah5;generalize AM5 l w.Key l.length = k at *
  cases k with
  | zero =>
    rw [C5 (by simp [CW1]), Bm2 (l := l) (p := 0) (E2 _) (fun i x h => by omega) (fun x hx => by
      have h3 := h1 0 x (N2 _) (G2.1 hx).1 hx
      cases hb : Op.bytesLess x.Key w.Key with
      | false => rfl
      | true => have := W0 h3 hb; rw [M5] at this; cases this)]
    rw [C5];intro ⟨x, hx, hk⟩;have h3 := h1 0 x (N2 _) (G2.1 hx).1 hx;rw [hk, M5] at h3; cases h3
  | succ n =>
    obtain ⟨x, hx⟩ := Go.AV.B3 (show n < l.length by omega);have h3 := h2 x qz8 AT1;have htri := j8 x.Key w.Key;by_cases hk : x.Key = w.Key
    · rw [D3 (by simp [CW1, hx, hk]), Nat.add_sub_cancel]
      rw [Bm2 (l := l) (p := n) qz8 (fun i y hi hy => by have := Ac8 AI6 h hi hy hx; unfold T9 at this; rw [hk] at this; exact this) (fun y hy => by rw [hx] at hy; injection hy with hy; subst hy; rw [hk, M5])];rw [D3 ⟨x, hx, hk⟩]
    · have hlt : Op.bytesLess x.Key w.Key = true := by rw [h3] at htri; cases hb : Op.bytesLess x.Key w.Key with | true => rfl | false => (rw [hb] at htri; simp at htri; exact absurd htri.symm hk)
      rw [C5 (by simp [CW1, hx, hk])];have hno : ∀ y, l[n + 1]? = some y → Op.bytesLess w.Key y.Key = true := fun y hy => h1 (n + 1) y (N2 _) (G2.1 hy).1 hy;rw [Bm2 (l := l) (p := n + 1) hle (fun i y hi hy => by
        rcases Nat.lt_or_ge i n with h4 | h4
        · have := Ac8 AI6 h h4 hy hx
          exact W0 this hlt
        · have : i = n := by omega
          subst this;rw [hx] at hy; injection hy with hy; subst hy; exact hlt) (fun y hy => by
        cases hb : Op.bytesLess y.Key w.Key with
        | false => rfl
        | true => have := W0 (hno y hy) hb; rw [M5] at this; cases this)]
      rw [C5];intro ⟨y, hy, hyk⟩;have := hno y hy;rw [hyk, M5] at this; cases this
theorem Ag3 {α : Type} {p : α → α → Bool} (tr : ∀ a b c, p a b = true → p b c = true → p a c = true) : ∀ {l : List α}, adj p l = true ↔ l.Pairwise fun a b => p a b = true
  | [] => by simp [adj]
  | [x] => by simp [adj]
  | x :: y :: l => by
    rw [adj, D8, Ag3 tr, AH3 (a := x)];constructor
    · intro ⟨h1, h2⟩
      refine ⟨fun z hz => ?_, h2⟩;rcases T0.1 hz with rfl | hz
      · exact h1
      · exact tr _ _ _ h1 (List.rel_of_pairwise_cons h2 hz)
    · intro ⟨h1, h2⟩
      exact ⟨h1 y a8, h2⟩
theorem DI5 {l : List A5} (q : A5 → Bool) (h : adj T9 l = true) : adj T9 (l.filter q) = true :=
  (Ag3 AI6).2 (((Ag3 AI6).1 h).filter q)
theorem AX6 {w x : A5} : ∀ {l : List A5}, x ∈ ins l w → x = w ∨ x ∈ l
  | [], h => by simp [ins] at h; exact .inl h
  | y :: l, h => by
    unfold ins at h;split at h
    · rcases T0.1 h with rfl | h
      · exact .inr a8
      · exact (AX6 h).imp id (S7 _)
    · split at h
      · rcases T0.1 h with rfl | h
        · exact .inl rfl
        · exact .inr (S7 _ h)
      · rcases T0.1 h with rfl | h
        · exact .inl rfl
        · exact .inr h
theorem BL9 {w : A5} : ∀ {l : List A5}, adj T9 l = true → adj T9 (ins l w) = true
  | [], _ => rfl
  | y :: l, h => by
    have hp := (Ag3 AI6).1 h;refine (Ag3 AI6).2 ?_;unfold ins;split
    · rename_i hlt
      have ih := (Ag3 AI6).1 (BL9 (w := w) (Bd9 h));refine AH3.2 ⟨fun z hz => ?_, ih⟩;rcases AX6 hz with rfl | hz
      · exact hlt
      · exact List.rel_of_pairwise_cons hp hz
    · rename_i hnlt
      split
      · rename_i hk
        refine AH3.2 ⟨fun z hz => ?_, (AH3.1 hp).2⟩;have := List.rel_of_pairwise_cons hp hz;unfold T9 at this ⊢;rw [← hk]; exact this
      · rename_i hk
        have hgt : Op.bytesLess w.Key y.Key = true := by
          have := j8 y.Key w.Key
          cases hb : Op.bytesLess w.Key y.Key with
          | true => rfl
          | false => rw [hb] at this; simp at hnlt; rw [hnlt] at this; simp at this; exact absurd this.symm hk
        refine AH3.2 ⟨fun z hz => ?_, hp⟩;rcases T0.1 hz with rfl | hz
        · exact hgt
        · exact W0 hgt (List.rel_of_pairwise_cons hp hz)
theorem BX8 {w : A5} : ∀ {l : List A5}, l.length ≤ (ins l w).length ∧ (ins l w).length ≤ l.length + 1
  | [] => by simp [ins]
  | y :: l => by
    unfold ins;have ih := BX8 (w := w) (l := l);split
    · simp; omega
    · split <;> simp
theorem Bt4 (a b : Str) : (!(Op.bytesLess a b || a == b)) = Op.bytesLess b a := by
  have h := j8 a b
  cases h1 : Op.bytesLess a b
  · cases h2 : Op.bytesLess b a
    · rw [h1, h2] at h; simp at h; simp [h]
    · simp; intro hc; subst hc; rw [M5] at h2; cases h2
  · simp; cases h2 : Op.bytesLess b a with
    | false => rfl
    | true => have := W0 h1 h2; rw [M5] at this; cases this
theorem DI6 {l : List A5} {k : Str} {n : Nat} {x : A5} (hx : l[n]? = some x) (h : Op.bytesLess k x.Key = true) : AM5 l k (n + 1) = AM5 l k n := by
  conv => lhs; unfold AM5
  simp only [hx, h, if_true]
theorem DI7 {l : List A5} {k : Str} {n : Nat} {x : A5} (hx : l[n]? = some x) (h : Op.bytesLess k x.Key = false) : AM5 l k (n + 1) = n + 1 := by
  unfold AM5;simp only [hx, h, Bool.false_eq_true, if_false]
def BW9 (l ws : List A5) : List A5 := ws.foldl ins l
theorem Cn2 : ∀ {ws l : List A5}, adj T9 l = true → adj T9 (BW9 l ws) = true
  | [], _, h => h
  | w :: ws, l, h => Cn2 (ws := ws) (BL9 h)
theorem Cn3 {x : A5} : ∀ {ws l : List A5}, x ∈ BW9 l ws → x ∈ ws ∨ x ∈ l
  | [], _, h => .inr h
  | w :: ws, l, h => by
    rcases Cn3 (ws := ws) (l := ins l w) h with h | h
    · exact .inl (S7 _ h)
    · rcases AX6 h with rfl | h
      · exact .inl a8
      · exact .inr h
theorem CA8 : ∀ {ws l : List A5}, (BW9 l ws).length ≤ l.length + ws.length
  | [], l => by simp [BW9]
  | w :: ws, l => by
    have h1 := CA8 (ws := ws) (l := ins l w);have h2 := (BX8 (w := w) (l := l)).2;show (BW9 (ins l w) ws).length ≤ _
    simp only [I9]; omega
def AR6 (l ws : List A5) : List A5 := ws.foldl Ah5 l
theorem CY4 : ∀ {ws l : List A5}, adj T9 l = true → AR6 l ws = BW9 l ws
  | [], _, _ => rfl
  | w :: ws, l, h => by
    show AR6 (Ah5 l w) ws = BW9 (ins l w) ws
    rw [CY3 h, CY4 (BL9 h)]
theorem DS6 (l : List A5) (w : A5) : (Ah5 l w).length ≤ l.length + 1 := by
  unfold Ah5; split
  · simp
  · simp; omega
theorem Bm3 : ∀ (ws l : List A5), (AR6 l ws).length ≤ l.length + ws.length
  | [], l => by simp [AR6]
  | w :: ws, l => by
    have h1 := Bm3 ws (Ah5 l w);have h2 := DS6 l w;show (AR6 (Ah5 l w) ws).length ≤ _
    simp only [I9]; omega
theorem DI8 (l ws : List A5) (w : A5) : AR6 l (ws ++ [w]) = Ah5 (AR6 l ws) w := by unfold AR6; rw [List.foldl_append]; rfl
def CN9 (l : List A5) : List A5 := l.filter fun w => !w.Gone
def BP4 (a b : Int) : Int := if a < b then a else b
theorem DI9 {n a b : Int} : within n a b = true ↔ a ≤ n ∧ n ≤ b := by unfold within; simp
theorem DS7 {k : Str} (h : r5 k = true) : k.length ≤ 12 := by
  unfold r5 at h; simp only [D8, DI9] at h; omega
theorem DJ0 {w : A5} (h : AJ8 w = true) : w.size ≤ 36 := by
  unfold AJ8 AY0 at h;simp only [D8] at h;have h1 := DS7 h.1.1;have h2 := h.1.2;unfold AO3 at h2;simp only [D8, H5] at h2;unfold A5.size; omega
theorem Bm4 (a b : Str) : Op.bytesLess a b = true ∨ a = b ∨ Op.bytesLess b a = true := by
  have h := j8 a b
  cases h1 : Op.bytesLess a b
  · cases h2 : Op.bytesLess b a
    · rw [h1, h2] at h; simp at h; exact .inr (.inl h.symm)
    · exact .inr (.inr rfl)
  · exact .inl rfl
def AV6 (l : List Str) : Prop := l.Pairwise fun a b => Op.bytesLess a b = true
theorem Cn4 : ∀ {a b : List Str}, AV6 a → AV6 b → (∀ x, x ∈ a ↔ x ∈ b) → a = b
  | [], [], _, _, _ => rfl
  | [], y :: b, _, _, h => by have := (h y).2 a8; cases this
  | x :: a, [], _, _, h => by have := (h x).1 a8; cases this
  | x :: a, y :: b, ha, hb, h => by
    obtain ⟨a1, a2⟩ := AH3.1 ha;obtain ⟨b1, b2⟩ := AH3.1 hb;have asym : ∀ {u v : Str}, Op.bytesLess u v = true → Op.bytesLess v u = true → False := fun h k => by
      have := W0 h k; rw [M5] at this; cases this
    have e : x = y := by
      rcases T0.1 ((h x).1 a8) with e | e
      · exact e
      · rcases T0.1 ((h y).2 a8) with f | f
        · exact f.symm
        · exact (asym (b1 x e) (a1 y f)).elim
    subst e;rw [Cn4 a2 b2 fun z => ?_];constructor
    · intro hz
      rcases T0.1 ((h z).1 (S7 _ hz)) with e | e
      · subst e; have := a1 z hz; rw [M5] at this; cases this
      · exact e
    · intro hz
      rcases T0.1 ((h z).2 (S7 _ hz)) with e | e
      · subst e; have := b1 z hz; rw [M5] at this; cases this
      · exact e
def BE6 (l : List Str) : List Str := l.mergeSort fun x y => decide (x ≤ y)
theorem le_less (x y : Str) : decide (x ≤ y) = !Op.bytesLess y x := by
  rw [Go.Proofs.bytesLess_eq];by_cases h : y < x
  · simp [h, List.not_le.2 h]
  · simp [h, List.not_lt.1 h]
theorem DS8 (l : List Str) (z : Str) : z ∈ BE6 l ↔ z ∈ l := (List.mergeSort_perm l _).mem_iff
theorem Bm5 (l : List Str) : (BE6 l).length = l.length := List.length_mergeSort l
theorem DJ1 (l : List Str) : (BE6 l).Pairwise fun a b => Op.bytesLess b a = false := by
  have h := List.pairwise_mergeSort (le := fun x y : Str => decide (x ≤ y)) (fun a b c h1 h2 => by
    simp only [H5] at *; exact List.le_trans h1 h2) (fun a b => by
    simp only [AB1, H5]; exact List.le_total a b) l
  refine h.imp fun {a b} hab => ?_;rw [le_less] at hab;simpa using hab
theorem BR8 {l : List Str} {z : Str} : ∀ {n : Nat}, z ∈ AS4 l n ↔ ∃ i, i < n ∧ l[i]? = some z
  | 0 => by constructor
            · intro h; cases h
            · rintro ⟨i, h, _⟩; omega
  | n + 1 => by
    show z ∈ (if n ≠ 0 ∧ l[n]? = l[n - 1]? then AS4 l n else AS4 l n ++ (l[n]?).toList) ↔ _
    split
    · rename_i h
      rw [BR8];constructor
      · exact fun ⟨i, h1, h2⟩ => ⟨i, by omega, h2⟩
      · intro ⟨i, h1, h2⟩
        by_cases e : i = n
        · subst e; exact ⟨i - 1, by omega, h.2 ▸ h2⟩
        · exact ⟨i, by omega, h2⟩
    · rw [u6, BR8, Option.mem_toList]
      constructor
      · rintro (⟨i, h1, h2⟩ | h)
        · exact ⟨i, by omega, h2⟩
        · exact ⟨n, by omega, h⟩
      · intro ⟨i, h1, h2⟩
        by_cases e : i = n
        · subst e; exact .inr h2
        · exact .inl ⟨i, by omega, h2⟩
theorem DS9 (l : List Str) (z : Str) : z ∈ cmpL l ↔ z ∈ l := by
  unfold cmpL;rw [BR8];constructor
  · exact fun ⟨i, _, h⟩ => C2 h
  · intro h
    obtain ⟨i, hi⟩ := i7 h;exact ⟨i, (G2.1 hi).1, hi⟩
theorem CA9 {l : List Str} (hs : l.Pairwise fun a b => Op.bytesLess b a = false) {i j : Nat} {x y : Str} (hij : i < j) (hx : l[i]? = some x) (hy : l[j]? = some y) : Op.bytesLess y x = false := by
  obtain ⟨h1, e1⟩ := G2.1 hx;obtain ⟨h2, e2⟩ := G2.1 hy;have := List.pairwise_iff_getElem.1 hs i j h1 h2 hij;rw [e1, e2] at this; exact this
theorem CY5 {l : List Str} (hs : l.Pairwise fun a b => Op.bytesLess b a = false) : ∀ {n : Nat}, n ≤ l.length → AV6 (AS4 l n)
  | 0, _ => List.Pairwise.nil
  | n + 1, hn => by
    have ih := CY5 hs (n := n) qz8;show AV6 (if n ≠ 0 ∧ l[n]? = l[n - 1]? then AS4 l n else AS4 l n ++ (l[n]?).toList)
    split
    · exact ih
    · rename_i h
      obtain ⟨x, hx⟩ := B3 (show n < l.length by omega);rw [hx];refine List.pairwise_append.2 ⟨ih, List.pairwise_singleton _ _, fun z hz w hw => ?_⟩;simp at hw; subst hw;obtain ⟨i, hi, hzi⟩ := BR8.1 hz;have h1 := CA9 hs hi hzi hx;rcases Bm4 z w with e | e | e
      · exact e
      · exfalso
        subst e;apply h
        refine ⟨by omega, ?_⟩;by_cases f : i = n - 1
        · rw [hx, ← f, hzi]
        · obtain ⟨v, hv⟩ := B3 (show n - 1 < l.length by omega)
          have h3 := CA9 hs (show n - 1 < n by omega) hv hx;have h4 := CA9 hs (show i < n - 1 by omega) hzi hv;rw [hx, hv];rcases Bm4 z v with g | g | g
          · rw [g] at h3; cases h3
          · rw [g]
          · rw [g] at h4; cases h4
      · rw [h1] at e; cases e
def Ap2 (l : List Str) : List Str := cmpL (BE6 l)
theorem CY6 (l : List Str) : AV6 (Ap2 l) := CY5 (DJ1 l) (N2 _)
theorem BR9 (l : List Str) (z : Str) : z ∈ Ap2 l ↔ z ∈ l := by unfold Ap2; rw [DS9, DS8]
theorem BS0 (l : List Str) : (Ap2 l).length ≤ l.length := by
  have := Cn0 (BE6 l) (BE6 l).length;unfold Ap2 cmpL; rw [Bm5] at this ⊢; exact this
def AE7 : List Str → Str → List Str
  | [], s => [s]
  | y :: l, s => if Op.bytesLess s y = true then s :: y :: l else if y = s then y :: l else y :: AE7 l s
theorem BN4 {s : Str} : ∀ {l : List Str}, AV6 l → AV6 (AE7 l s) ∧ ∀ z, z ∈ AE7 l s ↔ z ∈ l ∨ z = s
  | [], _ => ⟨by unfold AV6 AE7; simp, fun z => by simp [AE7]⟩
  | y :: l, h => by
    obtain ⟨h1, h2⟩ := AH3.1 h;unfold AE7;split
    · rename_i hs
      refine ⟨AH3.2 ⟨fun z hz => ?_, h⟩, fun z => ?_⟩
      · rcases T0.1 hz with rfl | hz
        · exact hs
        · exact W0 hs (h1 z hz)
      · rw [T0, or_comm]
    · rename_i hs
      split
      · rename_i e
        subst e;refine ⟨h, fun z => ⟨.inl, ?_⟩⟩
        rintro (hz | rfl)
        · exact hz
        · exact a8
      · rename_i e
        obtain ⟨i1, i2⟩ := BN4 (s := s) h2;have hys : Op.bytesLess y s = true := by
          rcases Bm4 y s with g | g | g
          · exact g
          · exact absurd g e
          · exact absurd g hs
        refine ⟨AH3.2 ⟨fun z hz => ?_, i1⟩, fun z => ?_⟩
        · rcases (i2 z).1 hz with hz | rfl
          · exact h1 z hz
          · exact hys
        · rw [T0, i2, T0, or_assoc]
theorem Be0 (s : Str) : ∀ l : List Str, (AE7 l s).length ≤ l.length + 1
  | [] => N2 _
  | y :: l => by
    have := Be0 s l;unfold AE7;split
    · exact N2 _
    · split
      · exact Nat.le_succ _
      · rw [I9, I9]; omega
def AF0 (l : List Str) (o : List Str) : List Str := l.foldl AE7 o
theorem Ai3 : ∀ {l o : List Str}, AV6 o → AV6 (AF0 l o) ∧ ∀ z, z ∈ AF0 l o ↔ z ∈ o ∨ z ∈ l
  | [], o, h => ⟨h, fun z => by simp [AF0]⟩
  | s :: l, o, h => by
    obtain ⟨h1, h2⟩ := BN4 (s := s) h;obtain ⟨i1, i2⟩ := Ai3 (l := l) h1;refine ⟨i1, fun z => ?_⟩;show z ∈ AF0 l (AE7 o s) ↔ _
    rw [i2, h2, T0, or_assoc]
theorem CY7 (l : List Str) : Ap2 l = AF0 l [] := by
  obtain ⟨h1, h2⟩ := Ai3 (l := l) (o := []) List.Pairwise.nil;exact Cn4 (CY6 l) h1 fun z => by rw [BR9, h2]; simp
theorem CY8 {s : Str} : ∀ {l : List Str} {k : Nat}, AV6 l → k ≤ l.length → (∀ i y, k ≤ i → l[i]? = some y → Op.bytesLess s y = true) → (∀ y, 0 < k → l[k - 1]? = some y → Op.bytesLess s y = false ∧ y ≠ s) → AE7 l s = l.take k ++ s :: l.drop k
  | [], k, _, hk, _, _ => by have : k = 0 := by simpa using hk
                             subst this; rfl
  | y :: l, 0, _, _, h, _ => by
    unfold AE7;rw [D3 (h 0 y (N2 _) rfl)]; rfl
  | y :: l, k + 1, hs, hk, h, g => by
    obtain ⟨h1, h2⟩ := AH3.1 hs;have hy : Op.bytesLess s y = false ∧ y ≠ s := by
      cases k with
      | zero => exact g y qz8 rfl
      | succ k =>
        obtain ⟨z, hz⟩ := B3 (show k < l.length by simp at hk; omega);have hgz := g z qz8 (by simpa using hz);have hyz := h1 z (C2 hz);refine ⟨?_, fun e => ?_⟩
        · cases e : Op.bytesLess s y with
          | false => rfl
          | true => have := W0 e hyz; rw [hgz.1] at this; cases this
        · subst e; rw [hyz] at hgz; cases hgz.1
    unfold AE7;rw [C5 (by rw [hy.1]; decide), C5 hy.2, CY8 h2 (by simpa using hk) (fun i z hi hz => h (i + 1) z qz8 (by simpa using hz)) (fun z hz hz2 => g z qz8 (by
      cases k with
      | zero => omega
      | succ k => simpa using hz2))]
    rfl
theorem CG8 {s : Str} : ∀ {l : List Str} {k : Nat}, AV6 l → l[k]? = some s → AE7 l s = l
  | y :: l, 0, hs, h => by
    simp at h; subst h;unfold AE7;rw [C5 (by rw [M5]; decide), D3 rfl]
  | y :: l, k + 1, hs, h => by
    obtain ⟨h1, h2⟩ := AH3.1 hs;have h3 : l[k]? = some s := by simpa using h
    have hy := h1 s (C2 h3);unfold AE7;rw [C5 (fun e => by have := W0 e hy; rw [M5] at this; cases this), C5 (fun e => by rw [e, M5] at hy; cases hy), CG8 h2 h3]
  | [], k, hs, h => by simp at h
theorem Ax1 (l o : List Str) (s : Str) : AF0 (l ++ [s]) o = AE7 (AF0 l o) s := by
  unfold AF0; rw [List.foldl_append]; rfl
theorem Aq1 : ∀ (l o : List Str), (AF0 l o).length ≤ o.length + l.length
  | [], o => N2 _
  | s :: l, o => by
    have h1 := Aq1 l (AE7 o s);have h2 := Be0 s o;show (AF0 l (AE7 o s)).length ≤ _
    rw [I9]; omega
end Go.M
