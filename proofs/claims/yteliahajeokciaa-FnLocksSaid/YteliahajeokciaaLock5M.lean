/- Plain law: what is asked, freed and taken fits together. -/
import Derived.Test.YteliahajeokciaaLockM
set_option linter.unusedVariables false
set_option linter.unusedSimpArgs false
namespace Go.M
open Go.AV
theorem ask_ok {l : List TLock} {fixed : List Int} {x : TLock} (h : (askR l fixed x).2.2 = true) : goodLocks l = true ∧ isLock x = true ∧ askR l fixed x = ((askL l fixed x (waitsR l x)).1, (askL l fixed x (waitsR l x)).2, true) ∧ waitsP l x = (waitsR l x, true) := by
  unfold askR at h ⊢
  split at h
  · cases h
  · rename_i hb
    rw [if_neg hb]
    unfold askBad at hb
    simp only [Bool.or_eq_true, Bool.not_eq_true', not_or, Bool.not_eq_false] at hb
    refine ⟨hb.1.1.1, hb.2, rfl, ?_⟩
    unfold waitsP
    rw [hb.1.1.1, hb.2]; rfl
theorem ask_one (l : List TLock) (fixed : List Int) (x : TLock) (w : List Int) : (((askL l fixed x w).1 == 1) != ((w.length : Int) == 0)) = false := by
  unfold askL
  by_cases h : w.length = 0
  · rw [if_pos h, h]; rfl
  · rw [if_neg h]
    have h2 : ((w.length : Int) == 0) = false := by simp; simpa using h
    rw [h2]
    split <;> rfl
theorem ask_wound {l : List TLock} {fixed : List Int} {x : TLock} {v : Int} (hv : v ∈ (askL l fixed x (waitsR l x)).2) : (decide (v ≤ x.Txn) || fixed.any fun y => v == y) = false := by
  unfold askL at hv
  split at hv
  · simp at hv
  · split at hv
    · simp at hv
    · rename_i h
      simp only [List.any_eq_true, not_exists, not_and, Bool.not_eq_true] at h
      have h1 := h v hv
      simp only [Bool.or_eq_false_iff, decide_eq_false_iff_not] at h1 ⊢
      refine ⟨fun hle => ?_, h1.2⟩
      obtain ⟨y, _, hc, ht⟩ := waitsR_mem.1 hv
      have := (clash_iff.1 hc).2.1
      omega
theorem ask_elder {l : List TLock} {fixed : List Int} {x : TLock} {w : List Int} (h : (askL l fixed x w).1 = 2) (hf : fixed.length = 0) : (w.any fun v => decide (v < x.Txn)) = true := by
  unfold askL at h
  split at h
  · simp at h
  · split at h
    · rename_i h2
      rw [List.length_eq_zero_iff.1 hf] at h2
      simpa using h2
    · simp at h
theorem waits_txn {l : List TLock} {x : TLock} {v : Int} (h : goodLocks l = true) (hv : v ∈ waitsR l x) : isTxn v = true := by
  obtain ⟨y, hy, _, rfl⟩ := waitsR_mem.1 hv
  have := (goodLocks_iff.1 h).1 y hy
  unfold isLock at this
  simp only [Bool.and_eq_true] at this
  exact this.2
theorem free_ok {l : List TLock} {ts : List Int} {v : Int} (h : goodLocks l = true) (hv : isTxn v = true) : freeP (freeAll l ts) v = (freeAll l (ts ++ [v]), true) := by
  unfold freeP
  rw [good_sub h freeAll_sub, hv, freeAll_snoc]; rfl
theorem final_take {l : List TLock} {x : TLock} (h : goodLocks l = true) (hx : isLock x = true) :
    (((takeR (freeAll l (waitsR l x)) x).2 && !goodLocks (takeR (freeAll l (waitsR l x)) x).1) || (!(takeR (freeAll l (waitsR l x)) x).2 && decide (((freeAll l (waitsR l x)).length : Int) < 60))) = false := by
  have hg := good_sub h (freeAll_sub (ts := waitsR l x))
  have hw := freeAll_waits l x
  obtain ⟨F, hF⟩ : ∃ F, freeAll l (waitsR l x) = F := ⟨_, rfl⟩
  rw [hF] at hg hw ⊢
  unfold takeR
  rw [hg, hx, if_neg (by decide)]
  unfold takeP
  have hlen := takeL_len F x
  by_cases h60 : 60 < (takeL F x).length
  · rw [if_pos (by simp [h60])]
    have : ¬ (F.length < 60) := by omega
    simp; omega
  · rw [if_neg (by simp [h60, hw])]
    simp [take_good hg hx hw (by omega)]
theorem parts_law (b : List TLock) (n : Int) : (!(freeP b n).2 || ((((freeP b n).1.length : Int) + ((ofP b n).1.length : Int)) == (b.length : Int))) = true := by
  unfold freeP ofP
  split
  · rfl
  · have := parts_len b n
    simp; omega
theorem sizeL_subl {α : Type} {f : α → Nat} {a b : List α} (h : a.Sublist b) : sizeL f a ≤ sizeL f b := by
  induction h with
  | slnil => exact Nat.le_refl _
  | cons x _ ih => simp only [sizeL, List.length_cons, List.map_cons, List.sum_cons] at ih ⊢; omega
  | cons_cons x _ ih => simp only [sizeL, List.length_cons, List.map_cons, List.sum_cons] at ih ⊢; omega
theorem freeAll_size (l : List TLock) (ts : List Int) : sizeL TLock.size (freeAll l ts) ≤ sizeL TLock.size l := sizeL_subl freeAll_sub
theorem ask_len (l : List TLock) (fixed : List Int) (x : TLock) (w : List Int) : (askL l fixed x w).2.length ≤ w.length := by
  unfold askL
  split
  · exact Nat.zero_le _
  · split
    · exact Nat.zero_le _
    · exact Nat.le_refl _
theorem takeL_size' (l : List TLock) (x : TLock) : sizeL TLock.size (takeL l x) ≤ sizeL TLock.size l + (TLock.size x + 1) := by
  induction l with
  | nil => simp [takeL, sizeL]; omega
  | cons y l ih =>
    unfold takeL
    split
    · rename_i h; simp only [sizeL, List.length_cons, List.map_cons, List.sum_cons, TLock.size]; omega
    · simp only [sizeL, List.length_cons, List.map_cons, List.sum_cons] at ih ⊢; omega
theorem takeR_size (l : List TLock) (x : TLock) : sizeL TLock.size (takeR l x).1 ≤ sizeL TLock.size l + (TLock.size x + 1) := by
  have h := takeL_size' l x
  unfold takeR takeP
  split
  · simp [sizeL]
  · split
    · simp [sizeL]
    · exact h
theorem freeP_len (l : List TLock) (t : Int) : (freeP l t).1.length ≤ l.length := by
  unfold freeP
  split
  · exact Nat.zero_le _
  · exact List.length_filter_le _ _
theorem ofP_len (l : List TLock) (t : Int) : (ofP l t).1.length ≤ l.length := by
  unfold ofP
  split
  · exact Nat.zero_le _
  · exact List.length_filter_le _ _
end Go.M
