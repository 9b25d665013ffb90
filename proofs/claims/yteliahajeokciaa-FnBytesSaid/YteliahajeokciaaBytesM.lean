/- Plain law: numbers and texts as bytes, and the reading of them. -/
import Derived.Test.YteliahajeokciaaBaseM
set_option linter.unusedVariables false
set_option linter.unusedSimpArgs false
namespace Go.M
/-- The bytes of a number: seven bits each, the least first; the last one is below 128. -/
def numB (n : Nat) : Str := if h : 128 ≤ n then UInt8.ofNat (n % 128 + 128) :: numB (n / 128) else [UInt8.ofNat n]
termination_by n
decreasing_by omega
theorem numB_small {n : Nat} (h : n < 128) : numB n = [UInt8.ofNat n] := by rw [numB, dif_neg (by omega)]
theorem numB_big {n : Nat} (h : 128 ≤ n) : numB n = UInt8.ofNat (n % 128 + 128) :: numB (n / 128) := by rw [numB, dif_pos h]
theorem u8_nat {n : Nat} (h : n < 256) : (UInt8.ofNat n).toNat = n := by rw [UInt8.toNat_ofNat']; exact Nat.mod_eq_of_lt h
/-- The bytes up to the first one below 128. -/
def vpre : Str → Option Str
  | [] => none
  | b :: s => if b.toNat < 128 then some [b] else (vpre s).map (b :: ·)
def vval : Str → Nat
  | [] => 0
  | b :: s => b.toNat % 128 + 128 * vval s
/-- A number at the front of bytes, and how many bytes it has. -/
def numP (s : Str) : Option (Nat × Nat) := match vpre s with
  | none => none
  | some p => if vval p ≤ 1000000000 ∧ numB (vval p) = p then some (vval p, p.length) else none
def Cont (s : Str) : Prop := ∀ b ∈ s, 128 ≤ b.toNat
theorem vpre_cont : ∀ {p : Str} {s : Str}, Cont p → vpre (p ++ s) = (vpre s).map (p ++ ·)
  | [], s, _ => by rw [List.nil_append]; cases vpre s <;> rfl
  | b :: p, s, h => by
    have hb := h b List.mem_cons_self
    show (if b.toNat < 128 then some [b] else (vpre (p ++ s)).map (b :: ·)) = _
    rw [if_neg (by omega), vpre_cont fun c hc => h c (List.mem_cons_of_mem _ hc), Option.map_map]
    rfl
theorem vpre_stop {p : Str} {b : UInt8} {s : Str} (h : Cont p) (hb : b.toNat < 128) : vpre (p ++ b :: s) = some (p ++ [b]) := by
  rw [vpre_cont h]
  show ((if b.toNat < 128 then some [b] else (vpre s).map (b :: ·)).map (p ++ ·)) = _
  rw [if_pos hb]; rfl
theorem vpre_none {p : Str} (h : Cont p) : vpre p = none := by
  have := vpre_cont (s := []) h
  rw [List.append_nil] at this; exact this
theorem vval_app : ∀ (p s : Str), vval (p ++ s) = vval p + 128 ^ p.length * vval s
  | [], s => by simp [vval]
  | b :: p, s => by
    show b.toNat % 128 + 128 * vval (p ++ s) = b.toNat % 128 + 128 * vval p + 128 ^ (p.length + 1) * vval s
    rw [vval_app p s, Nat.mul_add, Nat.pow_succ, ← Nat.mul_assoc, Nat.mul_comm (128 ^ p.length) 128]; omega
theorem vval_snoc (p : Str) (b : UInt8) : vval (p ++ [b]) = vval p + b.toNat % 128 * 128 ^ p.length := by
  rw [vval_app]; show vval p + 128 ^ p.length * (b.toNat % 128 + 128 * 0) = _; rw [Nat.mul_zero, Nat.add_zero, Nat.mul_comm]
theorem numB_form (n : Nat) : ∃ (p : Str) (b : UInt8), numB n = p ++ [b] ∧ Cont p ∧ b.toNat < 128 := by
  induction n using Nat.strongRecOn with
  | _ n ih =>
    rcases Nat.lt_or_ge n 128 with h | h
    · exact ⟨[], _, numB_small h, fun b hb => by simp at hb, by rw [u8_nat (by omega)]; exact h⟩
    · obtain ⟨p, b, h1, h2, h3⟩ := ih (n / 128) (by omega)
      refine ⟨UInt8.ofNat (n % 128 + 128) :: p, b, by rw [numB_big h, h1]; rfl, fun c hc => ?_, h3⟩
      rcases List.mem_cons.1 hc with rfl | hc
      · rw [u8_nat (by omega)]; omega
      · exact h2 c hc
theorem vpre_numB (n : Nat) (s : Str) : vpre (numB n ++ s) = some (numB n) := by
  obtain ⟨p, b, h1, h2, h3⟩ := numB_form n
  rw [h1, List.append_assoc]
  exact vpre_stop h2 h3
theorem vval_numB (n : Nat) : vval (numB n) = n := by
  induction n using Nat.strongRecOn with
  | _ n ih =>
    rcases Nat.lt_or_ge n 128 with h | h
    · rw [numB_small h]; show (UInt8.ofNat n).toNat % 128 + 128 * 0 = n; rw [u8_nat (by omega)]; omega
    · rw [numB_big h]
      show (UInt8.ofNat (n % 128 + 128)).toNat % 128 + 128 * vval (numB (n / 128)) = n
      rw [u8_nat (by omega), ih (n / 128) (by omega)]; omega
theorem numB_pos (n : Nat) : 1 ≤ (numB n).length := by
  obtain ⟨p, b, h1, _⟩ := numB_form n
  rw [h1]; simp
theorem numB_len {k : Nat} : ∀ {n : Nat}, n < 128 ^ k → 1 ≤ k → (numB n).length ≤ k := by
  induction k with
  | zero => intro n _ h; omega
  | succ k ih =>
    intro n h _
    rcases Nat.lt_or_ge n 128 with h1 | h1
    · rw [numB_small h1]; simp
    · rw [numB_big h1, List.length_cons]
      have hk : 1 ≤ k := by
        rcases Nat.eq_zero_or_pos k with h0 | h0
        · subst h0; simp at h; omega
        · exact h0
      have := ih (n := n / 128) (by rw [Nat.pow_succ] at h; omega) hk
      omega
theorem numB_len5 {n : Nat} (h : n ≤ 1000000000) : (numB n).length ≤ 5 := numB_len (k := 5) (by omega) (by decide)
theorem numP_numB {n : Nat} (h : n ≤ 1000000000) (s : Str) : numP (numB n ++ s) = some (n, (numB n).length) := by
  unfold numP
  rw [vpre_numB]
  simp only [vval_numB]
  rw [if_pos ⟨h, trivial⟩]
theorem vpre_split : ∀ {s p : Str}, vpre s = some p → ∃ q b t, p = q ++ [b] ∧ s = p ++ t ∧ Cont q ∧ b.toNat < 128
  | [], p, h => by cases h
  | c :: s, p, h => by
    unfold vpre at h
    split at h
    · rename_i hc
      injection h with h; subst h
      exact ⟨[], c, s, rfl, rfl, fun b hb => by simp at hb, hc⟩
    · rename_i hc
      cases hs : vpre s with
      | none => rw [hs] at h; cases h
      | some p' =>
        rw [hs] at h
        injection h with h; subst h
        obtain ⟨q, b, t, h1, h2, h3, h4⟩ := vpre_split hs
        refine ⟨c :: q, b, t, by rw [h1]; rfl, by rw [h2]; rfl, fun x hx => ?_, h4⟩
        rcases List.mem_cons.1 hx with rfl | hx
        · omega
        · exact h3 x hx
theorem numP_some {s : Str} {n k : Nat} (h : numP s = some (n, k)) : n ≤ 1000000000 ∧ k = (numB n).length ∧ ∃ t, s = numB n ++ t := by
  unfold numP at h
  cases hs : vpre s with
  | none => rw [hs] at h; cases h
  | some p =>
    rw [hs] at h
    simp only at h
    split at h
    · rename_i hh
      injection h with h
      injection h with h1 h2
      obtain ⟨q, b, t, g1, g2, _⟩ := vpre_split hs
      subst h1
      exact ⟨hh.1, by rw [hh.2, h2], t, by rw [hh.2]; exact g2⟩
    · cases h
theorem numP_len {s : Str} {n k : Nat} (h : numP s = some (n, k)) : k ≤ s.length ∧ 1 ≤ k ∧ k ≤ 5 := by
  obtain ⟨h1, h2, t, h3⟩ := numP_some h
  have := numB_pos n
  have := numB_len5 h1
  rw [h3, List.length_append]; omega
/-- While all bytes read go on: no number if the bytes end, if the value is too great, or if there are more than five. -/
theorem numP_end {p : Str} (h : Cont p) : numP p = none := by unfold numP; rw [vpre_none h]
theorem numP_stop {p : Str} {b : UInt8} {s : Str} (h : Cont p) (hb : b.toNat < 128) : numP (p ++ b :: s) = if vval (p ++ [b]) ≤ 1000000000 ∧ numB (vval (p ++ [b])) = p ++ [b] then some (vval (p ++ [b]), p.length + 1) else none := by
  unfold numP; rw [vpre_stop h hb]
  simp only [List.length_append, List.length_cons, List.length_nil, Nat.zero_add]
theorem numP_great {p : Str} {s : Str} (h : Cont p) (hv : 1000000000 < vval p) : numP (p ++ s) = none := by
  unfold numP
  rw [vpre_cont h]
  cases vpre s with
  | none => rfl
  | some q =>
    simp only [Option.map_some]
    rw [if_neg]
    intro hc
    have := hc.1
    rw [vval_app] at this
    omega
theorem numP_long {p : Str} {s : Str} (h : Cont p) (hl : 5 ≤ p.length) : numP (p ++ s) = none := by
  unfold numP
  rw [vpre_cont h]
  cases hs : vpre s with
  | none => rfl
  | some q =>
    simp only [Option.map_some]
    rw [if_neg]
    intro hc
    obtain ⟨q', b, t, h1, _⟩ := vpre_split hs
    have h2 := numB_len5 hc.1
    rw [hc.2, h1] at h2
    simp only [List.length_append, List.length_cons, List.length_nil] at h2
    omega
theorem cont_ne {p : Str} (h : Cont p) (n : Nat) : numB n ≠ p := by
  intro hc
  obtain ⟨q, b, h1, _, h3⟩ := numB_form n
  have := h b (by rw [← hc, h1]; simp)
  omega
theorem cont_snoc {p : Str} {b : UInt8} (h : Cont p) (hb : 128 ≤ b.toNat) : Cont (p ++ [b]) := fun c hc => by
  rcases List.mem_append.1 hc with hc | hc
  · exact h c hc
  · rw [List.mem_singleton.1 hc]; exact hb
/-! ### A reader: where it is, whether it failed -/
structure TSrc where
  at' : Nat
  bad : Bool
open Go.AV in
def srcC (b : Str) (s : TSrc) : List AV := [AV.str b, AV.int s.at', AV.bool s.bad]
def numA (b : Str) (s : TSrc) : Option (Nat × Nat) := if s.bad = true then none else numP (b.drop s.at')
/-- What a reader of numbers leaves. -/
def NumOk (b : Str) (s : TSrc) (x : TSrc × Nat) : Prop := (s.at' ≤ x.1.at' ∧ x.1.at' ≤ b.length) ∧ x.2 ≤ 1000000000 ∧ match numA b s with
  | some (n, k) => x = (⟨s.at' + k, false⟩, n)
  | none => x.1.bad = true ∧ x.2 = 0
/-- A text at the front of bytes. -/
def textP (s : Str) : Option (Str × Nat) := match numP s with
  | none => none
  | some (n, k) => if n ≤ 60 ∧ k + n ≤ s.length then some ((s.drop k).take n, k + n) else none
def textA (b : Str) (s : TSrc) : Option (Str × Nat) := if s.bad = true then none else textP (b.drop s.at')
def TextOk (b : Str) (s : TSrc) (x : TSrc × Str) : Prop := (s.at' ≤ x.1.at' ∧ x.1.at' ≤ b.length) ∧ x.2.length ≤ 60 ∧ match textA b s with
  | some (t, k) => x = (⟨s.at' + k, false⟩, t)
  | none => x.1.bad = true ∧ x.2 = []
def textB (s : Str) : Str := numB s.length ++ s
theorem textP_textB {t : Str} (h : t.length ≤ 60) (s : Str) : textP (textB t ++ s) = some (t, (textB t).length) := by
  unfold textP textB
  rw [List.append_assoc, numP_numB (by omega)]
  simp only [List.length_append]
  rw [if_pos ⟨h, by omega⟩, List.drop_left, List.take_left]
theorem textP_some {s t : Str} {k : Nat} (h : textP s = some (t, k)) : t.length ≤ 60 ∧ k = (textB t).length ∧ k ≤ s.length ∧ ∃ r, s = textB t ++ r := by
  unfold textP at h
  cases hn : numP s with
  | none => rw [hn] at h; cases h
  | some x =>
    obtain ⟨n, j⟩ := x
    rw [hn] at h
    simp only at h
    split at h
    · rename_i hh
      injection h with h
      injection h with h1 h2
      obtain ⟨g1, g2, r, g3⟩ := numP_some hn
      have hd : s.drop j = r := by rw [g3, g2, List.drop_left]
      rw [hd] at h1
      have hlr : n ≤ r.length := by rw [g3, List.length_append] at hh; omega
      have hl : t.length = n := by rw [← h1, List.length_take]; omega
      refine ⟨by omega, ?_, by omega, r.drop n, ?_⟩
      · unfold textB; rw [List.length_append, hl]; omega
      · unfold textB; rw [hl, ← h1, List.append_assoc, List.take_append_drop]; exact g3
    · cases h
/-- Some texts, one behind the other. -/
def textsN : Nat → Str → Option (List Str × Nat)
  | 0, _ => some ([], 0)
  | n + 1, s => match textP s with
    | none => none
    | some (t, k) => (textsN n (s.drop k)).map fun r => (t :: r.1, k + r.2)
def textsP (s : Str) : Option (List Str × Nat) := match numP s with
  | none => none
  | some (n, k) => if n ≤ 40 then (textsN n (s.drop k)).map fun r => (r.1, k + r.2) else none
def textsA (b : Str) (s : TSrc) : Option (List Str × Nat) := if s.bad = true then none else textsP (b.drop s.at')
def textsB (l : List Str) : Str := numB l.length ++ (l.map textB).flatten
theorem textsN_textsB : ∀ {l : List Str} (s : Str), (∀ t ∈ l, t.length ≤ 60) → textsN l.length ((l.map textB).flatten ++ s) = some (l, (l.map textB).flatten.length)
  | [], s, _ => rfl
  | t :: l, s, h => by
    have hf : ((t :: l).map textB).flatten ++ s = textB t ++ ((l.map textB).flatten ++ s) := by rw [List.map_cons, List.flatten_cons, List.append_assoc]
    rw [hf, List.length_cons]
    unfold textsN
    rw [textP_textB (h t List.mem_cons_self)]
    simp only
    rw [List.drop_left, textsN_textsB s fun x hx => h x (List.mem_cons_of_mem _ hx)]
    simp
theorem textsP_textsB {l : List Str} (h : ∀ t ∈ l, t.length ≤ 60) (hl : l.length ≤ 40) (s : Str) : textsP (textsB l ++ s) = some (l, (textsB l).length) := by
  unfold textsP textsB
  rw [List.append_assoc, numP_numB (by omega)]
  simp only
  rw [if_pos hl, List.drop_left, textsN_textsB s h]
  simp [List.length_append]
theorem numOk_bad {b : Str} {s : TSrc} {x : TSrc × Nat} (h : NumOk b s x) (hb : x.1.bad = true) : numA b s = none := by
  obtain ⟨_, _, h3⟩ := h
  cases hn : numA b s with
  | none => rfl
  | some y => obtain ⟨n, k⟩ := y; rw [hn] at h3; simp only at h3; rw [h3] at hb; cases hb
theorem numOk_good {b : Str} {s : TSrc} {x : TSrc × Nat} (h : NumOk b s x) (hb : x.1.bad = false) : ∃ n k, numA b s = some (n, k) ∧ x = (⟨s.at' + k, false⟩, n) := by
  obtain ⟨_, _, h3⟩ := h
  cases hn : numA b s with
  | none => rw [hn] at h3; rw [h3.1] at hb; cases hb
  | some y => obtain ⟨n, k⟩ := y; rw [hn] at h3; exact ⟨n, k, rfl, h3⟩
theorem numOk_zero {b : Str} {s : TSrc} {x : TSrc × Nat} (h : NumOk b s x) (hb : x.1.bad = true) : x.2 = 0 := by
  have hn := numOk_bad h hb
  obtain ⟨_, _, h3⟩ := h
  rw [hn] at h3; exact h3.2
theorem textOk_bad {b : Str} {s : TSrc} {x : TSrc × Str} (h : TextOk b s x) (hb : x.1.bad = true) : textA b s = none := by
  obtain ⟨_, _, h3⟩ := h
  cases hn : textA b s with
  | none => rfl
  | some y => obtain ⟨n, k⟩ := y; rw [hn] at h3; simp only at h3; rw [h3] at hb; cases hb
theorem textOk_good {b : Str} {s : TSrc} {x : TSrc × Str} (h : TextOk b s x) (hb : x.1.bad = false) : ∃ t k, textA b s = some (t, k) ∧ x = (⟨s.at' + k, false⟩, t) := by
  obtain ⟨_, _, h3⟩ := h
  cases hn : textA b s with
  | none => rw [hn] at h3; rw [h3.1] at hb; cases hb
  | some y => obtain ⟨n, k⟩ := y; rw [hn] at h3; exact ⟨n, k, rfl, h3⟩
def TextsOk (b : Str) (s : TSrc) (t : TSrc) (l : List Str) : Prop := (s.at' ≤ t.at' ∧ t.at' ≤ b.length) ∧ match textsA b s with
  | some (r, k) => t = ⟨s.at' + k, false⟩ ∧ l = r
  | none => t.bad = true
/-- The next bytes, if there are so many. -/
def takeR (b : Str) (s : TSrc) (n : Nat) : TSrc × Str := if (s.bad || decide ((b.length : Int) - (s.at' : Int) < (n : Int))) = true then (⟨s.at', true⟩, []) else (⟨s.at' + n, false⟩, (b.drop s.at').take n)
theorem takeR_bad {b : Str} {s : TSrc} {n : Nat} (h : s.bad = true) : takeR b s n = (⟨s.at', true⟩, []) := by unfold takeR; rw [if_pos (by rw [h]; rfl)]
theorem takeR_one {b : Str} {s : TSrc} (h : s.bad = false) (hs : s.at' ≤ b.length) : (b.drop s.at' = [] ∧ takeR b s 1 = (⟨s.at', true⟩, [])) ∨ ∃ c r, b.drop s.at' = c :: r ∧ takeR b s 1 = (⟨s.at' + 1, false⟩, [c]) := by
  have hl : (b.drop s.at').length = b.length - s.at' := List.length_drop
  unfold takeR
  rw [h, Bool.false_or]
  cases hd : b.drop s.at' with
  | nil =>
    rw [hd] at hl
    simp only [List.length_nil] at hl
    exact .inl ⟨rfl, by rw [if_pos (decide_eq_true (by omega))]⟩
  | cons c r =>
    rw [hd] at hl
    simp only [List.length_cons] at hl
    exact .inr ⟨c, r, rfl, by rw [if_neg (by rw [decide_eq_true_eq]; omega)]; rfl⟩
theorem textA_take {b : Str} {s : TSrc} {n k : Nat} (h : numA b s = some (n, k)) (hs : s.at' ≤ b.length) : textA b s = if n ≤ 60 ∧ k + n ≤ (b.drop s.at').length then some (((b.drop s.at').drop k).take n, k + n) else none := by
  unfold numA at h
  unfold textA textP
  cases hb : s.bad with
  | true => rw [hb] at h; cases h
  | false => rw [hb] at h; simp only [Bool.false_eq_true, if_false] at h ⊢; rw [h]
theorem textA_none {b : Str} {s : TSrc} (h : numA b s = none) : textA b s = none := by
  unfold numA at h
  unfold textA textP
  cases hb : s.bad with
  | true => rfl
  | false => rw [hb] at h; simp only [Bool.false_eq_true, if_false] at h ⊢; rw [h]
theorem textsA_num {b : Str} {s : TSrc} {n k : Nat} (h : numA b s = some (n, k)) : textsA b s = if n ≤ 40 then (textsN n ((b.drop s.at').drop k)).map (fun r => (r.1, k + r.2)) else none := by
  unfold numA at h
  unfold textsA textsP
  cases hb : s.bad with
  | true => rw [hb] at h; cases h
  | false => rw [hb] at h; simp only [Bool.false_eq_true, if_false] at h ⊢; rw [h]
theorem textsA_none {b : Str} {s : TSrc} (h : numA b s = none) : textsA b s = none := by
  unfold numA at h
  unfold textsA textsP
  cases hb : s.bad with
  | true => rfl
  | false => rw [hb] at h; simp only [Bool.false_eq_true, if_false] at h ⊢; rw [h]
/-- What holds while texts are read: m are still to come. -/
def RunOk (b : Str) (s : TSrc) (t : TSrc) (l : List Str) (m : Nat) : Prop := (s.at' ≤ t.at' ∧ t.at' ≤ b.length) ∧ ((t.bad = true ∧ textsA b s = none) ∨ (t.bad = false ∧ textsA b s = (textsN m (b.drop t.at')).map fun r => (l ++ r.1, (t.at' - s.at') + r.2)))
theorem runOk_end {b : Str} {s t : TSrc} {l : List Str} (h : RunOk b s t l 0) : TextsOk b s t l := by
  obtain ⟨h1, h2⟩ := h
  refine ⟨h1, ?_⟩
  rcases h2 with ⟨h2, h3⟩ | ⟨h2, h3⟩
  · rw [h3]; exact h2
  · rw [h3]
    show t = ⟨s.at' + ((t.at' - s.at') + 0), false⟩ ∧ l = l ++ []
    refine ⟨?_, by rw [List.append_nil]⟩
    obtain ⟨ta, tb⟩ := t
    simp only at h2 h1
    rw [h2]
    show (⟨ta, false⟩ : TSrc) = ⟨s.at' + ((ta - s.at') + 0), false⟩
    rw [show s.at' + ((ta - s.at') + 0) = ta by omega]
theorem runOk_bad {b : Str} {s t : TSrc} {l : List Str} {m : Nat} (h : RunOk b s t l m) (hb : t.bad = true) : TextsOk b s t l := by
  obtain ⟨h1, h2⟩ := h
  refine ⟨h1, ?_⟩
  rcases h2 with ⟨h2, h3⟩ | ⟨h2, h3⟩
  · rw [h3]; exact h2
  · rw [h2] at hb; cases hb
theorem runOk_step {b : Str} {s t : TSrc} {l : List Str} {m : Nat} {x : TSrc × Str} (h : RunOk b s t l (m + 1)) (hb : t.bad = false) (hx : TextOk b t x) : RunOk b s x.1 (l ++ [x.2]) m := by
  obtain ⟨h1, h2⟩ := h
  have hxx := hx
  obtain ⟨g1, g2, g3⟩ := hx
  refine ⟨by omega, ?_⟩
  rcases h2 with ⟨h2, h3⟩ | ⟨h2, h3⟩
  · rw [h2] at hb; cases hb
  · have ht : textA b t = textP (b.drop t.at') := by unfold textA; rw [hb]; rfl
    cases hq : textP (b.drop t.at') with
    | none =>
      rw [ht, hq] at g3
      refine .inl ⟨g3.1, ?_⟩
      rw [h3]; unfold textsN; rw [hq]; rfl
    | some y =>
      obtain ⟨u, k⟩ := y
      rw [ht, hq] at g3
      simp only at g3
      subst g3
      refine .inr ⟨rfl, ?_⟩
      rw [h3]
      conv => lhs; unfold textsN
      rw [hq]
      simp only [Option.map_map, List.drop_drop]
      congr 1
      funext r
      simp only [Function.comp_apply, List.append_assoc, List.singleton_append]
      rw [show t.at' - s.at' + (k + r.2) = t.at' + k - s.at' + r.2 by omega]
theorem numP_over {p r : Str} {c : UInt8} (hcp : Cont p) (h : 1000000000 < vval (p ++ [c]) ∨ 5 ≤ p.length) : numP (p ++ c :: r) = none := by
  rcases Nat.lt_or_ge c.toNat 128 with hc | hc
  · rw [numP_stop hcp hc, if_neg]
    intro hh
    rcases h with h | h
    · omega
    · have h5 := numB_len5 hh.1
      rw [hh.2, List.length_append] at h5
      simp only [List.length_cons, List.length_nil] at h5
      omega
  · rcases h with h | h
    · have := numP_great (s := r) (cont_snoc hcp hc) h
      rwa [List.append_assoc] at this
    · exact numP_long hcp h
theorem vval_lt : ∀ (p : Str), vval p < 128 ^ p.length
  | [] => by decide
  | c :: p => by
    have := vval_lt p
    show c.toNat % 128 + 128 * vval p < 128 ^ (p.length + 1)
    rw [Nat.pow_succ]; omega
def oneR (b : Str) (s : TSrc) : TSrc × Nat := if (s.bad || decide ((b.length : Int) ≤ (s.at' : Int))) = true then (⟨s.at', true⟩, 0) else (⟨s.at' + 1, false⟩, (b.getD s.at' 0).toNat)
theorem oneR_bad {b : Str} {s : TSrc} (h : s.bad = true) : oneR b s = (⟨s.at', true⟩, 0) := by unfold oneR; rw [if_pos (by rw [h]; rfl)]
theorem oneR_one {b : Str} {s : TSrc} (h : s.bad = false) (hs : s.at' ≤ b.length) : (b.drop s.at' = [] ∧ oneR b s = (⟨s.at', true⟩, 0)) ∨ ∃ c r, b.drop s.at' = c :: r ∧ oneR b s = (⟨s.at' + 1, false⟩, c.toNat) := by
  have hl : (b.drop s.at').length = b.length - s.at' := List.length_drop
  unfold oneR
  rw [h, Bool.false_or]
  cases hd : b.drop s.at' with
  | nil =>
    rw [hd] at hl
    simp only [List.length_nil] at hl
    exact .inl ⟨rfl, by rw [if_pos (decide_eq_true (by omega))]⟩
  | cons c r =>
    rw [hd] at hl
    simp only [List.length_cons] at hl
    refine .inr ⟨c, r, rfl, ?_⟩
    rw [if_neg (by rw [decide_eq_true_eq]; omega)]
    have : b[s.at']? = some c := by
      have h9 : (b.drop s.at')[0]? = some c := by rw [hd]; rfl
      rwa [List.getElem?_drop, Nat.add_zero] at h9
    rw [List.getD_eq_getElem?_getD, this]; rfl
theorem runOk_start {b : Str} {s : TSrc} {x : TSrc × Nat} (h : NumOk b s x) (hn : x.2 ≤ 40) : RunOk b s x.1 [] x.2 := by
  refine ⟨h.1, ?_⟩
  cases hb : x.1.bad with
  | true => exact .inl ⟨rfl, textsA_none (numOk_bad h hb)⟩
  | false =>
    obtain ⟨n, k, h1, h2⟩ := numOk_good h hb
    subst h2
    refine .inr ⟨rfl, ?_⟩
    rw [textsA_num h1, if_pos hn, List.drop_drop]
    simp only [List.nil_append, Nat.add_sub_cancel_left]
theorem runOk_big {b : Str} {s : TSrc} {x : TSrc × Nat} (h : NumOk b s x) (hn : 40 < x.2) (m : Nat) : RunOk b s ⟨x.1.at', true⟩ [] m := by
  refine ⟨h.1, .inl ⟨rfl, ?_⟩⟩
  cases hb : x.1.bad with
  | true => have := numOk_zero h hb; omega
  | false =>
    obtain ⟨n, k, h1, h2⟩ := numOk_good h hb
    subst h2
    rw [textsA_num h1, if_neg (by simp only at hn; omega)]
theorem textsOk_bad {b : Str} {s t : TSrc} {l : List Str} (h : TextsOk b s t l) (hb : t.bad = true) : textsA b s = none := by
  obtain ⟨_, h2⟩ := h
  cases hn : textsA b s with
  | none => rfl
  | some y => obtain ⟨n, k⟩ := y; rw [hn] at h2; simp only at h2; rw [h2.1] at hb; cases hb
theorem textsOk_good {b : Str} {s t : TSrc} {l : List Str} (h : TextsOk b s t l) (hb : t.bad = false) : ∃ k, textsA b s = some (l, k) ∧ t = ⟨s.at' + k, false⟩ := by
  obtain ⟨_, h2⟩ := h
  cases hn : textsA b s with
  | none => rw [hn] at h2; rw [h2] at hb; cases hb
  | some y => obtain ⟨n, k⟩ := y; rw [hn] at h2; simp only at h2; rw [h2.2]; exact ⟨k, rfl, h2.1⟩
def placeB (b : Str) (at' : Int) : Bool := decide ((b.length : Int) ≤ 6000) && within at' 0 b.length
def readNumR (b : Str) (at' : Int) : Int × Int × Bool := if (!placeB b at') = true then (0, 0, false) else match numP (b.drop at'.toNat) with
  | some (n, k) => ((n : Int), at' + k, true)
  | none => (0, 0, false)
def readTextR (b : Str) (at' : Int) : Str × Int × Bool := if (!placeB b at') = true then ([], 0, false) else match textP (b.drop at'.toNat) with
  | some (t, k) => (t, at' + k, true)
  | none => ([], 0, false)
def readTextsR (b : Str) (at' : Int) : List Str × Int × Bool := if (!placeB b at') = true then ([], 0, false) else match textsP (b.drop at'.toNat) with
  | some (l, k) => (l, at' + k, true)
  | none => ([], 0, false)
theorem placeB_nat {b : Str} {at' : Int} (h : placeB b at' = true) : b.length ≤ 6000 ∧ 0 ≤ at' ∧ at' ≤ b.length := by
  unfold placeB at h
  simp only [Bool.and_eq_true, decide_eq_true_eq] at h
  have h2 := h.2
  unfold within at h2
  simp at h2
  omega
theorem readNumR_of {b : Str} {k : Nat} (h : placeB b k = true) : readNumR b k = match numP (b.drop k) with
  | some (n, j) => ((n : Int), (k : Int) + j, true)
  | none => (0, 0, false) := by unfold readNumR; rw [h]; rfl
theorem readTextR_of {b : Str} {k : Nat} (h : placeB b k = true) : readTextR b k = match textP (b.drop k) with
  | some (n, j) => (n, (k : Int) + j, true)
  | none => ([], 0, false) := by unfold readTextR; rw [h]; rfl
theorem readTextsR_of {b : Str} {k : Nat} (h : placeB b k = true) : readTextsR b k = match textsP (b.drop k) with
  | some (n, j) => (n, (k : Int) + j, true)
  | none => ([], 0, false) := by unfold readTextsR; rw [h]; rfl
def numBytesR (n : Int) : Str × Bool := if (!within n 0 1000000000) = true then ([], false) else (numB n.toNat, true)
def textBytesR (s : Str) : Str × Bool := if decide ((60 : Int) < s.length) = true then ([], false) else (textB s, true)
def longT (t : Str) : Bool := decide ((60 : Int) < t.length)
def textsBytesR (l : List Str) : Str × Bool := if (decide ((40 : Int) < l.length) || l.any longT) = true then ([], false) else (textsB l, true)
theorem textOk_s {b : Str} {s : TSrc} {x : TSrc × Nat} (hs : s.at' ≤ b.length) (h : NumOk b s x) :
    (((x.1.bad || decide ((60 : Int) < (x.2 : Int))) || decide ((b.length : Int) < (x.1.at' : Int) + (x.2 : Int))) = true → TextOk b s (⟨x.1.at', true⟩, [])) ∧
    (((x.1.bad || decide ((60 : Int) < (x.2 : Int))) || decide ((b.length : Int) < (x.1.at' : Int) + (x.2 : Int))) = false → TextOk b s (⟨x.1.at' + x.2, false⟩, (b.drop x.1.at').take x.2) ∧ x.1.bad = false ∧ x.1.at' + x.2 ≤ b.length ∧ x.2 ≤ 60) := by
  have h0 := h.1
  cases hb : x.1.bad with
  | true =>
    refine ⟨fun _ => ⟨h0, Nat.zero_le _, by rw [textA_none (numOk_bad h hb)]; exact ⟨rfl, rfl⟩⟩, fun hc => by simp at hc⟩
  | false =>
    obtain ⟨n, k, h1, h2⟩ := numOk_good h hb
    subst h2
    simp only at h0 ⊢
    have hl : (b.drop s.at').length = b.length - s.at' := List.length_drop
    have ht := textA_take h1 hs
    refine ⟨fun hc => ⟨h0, Nat.zero_le _, ?_⟩, fun hc => ?_⟩
    · rw [if_neg] at ht
      · rw [ht]; exact ⟨rfl, rfl⟩
      · intro hh
        simp only [Bool.false_or, Bool.or_eq_true, decide_eq_true_eq] at hc
        omega
    · simp only [Bool.false_or, Bool.or_eq_false_iff, decide_eq_false_iff_not] at hc
      rw [if_pos (by omega), List.drop_drop] at ht
      refine ⟨⟨⟨by show s.at' ≤ s.at' + k + n; omega, by show s.at' + k + n ≤ b.length; omega⟩, ?_, ?_⟩, by trivial, by omega, by omega⟩
      · show ((b.drop (s.at' + k)).take n).length ≤ 60
        rw [List.length_take]; omega
      · rw [ht]
        show ((⟨s.at' + k + n, false⟩ : TSrc), (b.drop (s.at' + k)).take n) = (⟨s.at' + (k + n), false⟩, (b.drop (s.at' + k)).take n)
        rw [Nat.add_assoc]
theorem numA_new {b : Str} {k : Nat} : numA b ⟨k, false⟩ = numP (b.drop k) := rfl
theorem textA_new {b : Str} {k : Nat} : textA b ⟨k, false⟩ = textP (b.drop k) := rfl
theorem textsA_new {b : Str} {k : Nat} : textsA b ⟨k, false⟩ = textsP (b.drop k) := rfl
def bigB (code more : List Int) : Bool := decide ((1048576 : Int) < code.length) || decide ((1048576 : Int) - code.length < more.length)
end Go.M
