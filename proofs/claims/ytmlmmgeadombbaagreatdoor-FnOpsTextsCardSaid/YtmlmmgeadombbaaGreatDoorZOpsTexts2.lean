/- Texts of the claim, part 2. -/
import Derived.Lib.Join
import Derived.ProofKit
import Derived.OpenShut
import Derived.ShutString
import Derived.ChangeOld
import Derived.Sort.Grow
import Derived.Lib.LaidTab
import Derived.Lib.ItoaNum
import Derived.Laws.BytesArg
import Derived.Test.YtmlmmgeadombbaaGreatDoorRows
import Derived.Shelf.Strconv.Itoa3
import Derived.Test.YtmlmmgeadombbaaGreatDoorProg
import Derived.Lib.Split
import Derived.Lib.SplitLaws
import Derived.Lib.ConvBytes
import Derived.WideLaws
import Derived.SizedLaws
import Derived.Shelf.Strings.Split
import Derived.Shelf.Strings.Cut
import Derived.Shelf.Strings.Prefix
import Derived.Shelf.Strconv.ErrVarAll
import Derived.Shelf.Vars
import Derived.Stop.LaidErr
import Derived.Shelf.Strings.OnBuilder
import Derived.Test.YtmlmmgeadombbaaGreatDoorZOpsTexts1

set_option linter.unusedVariables false
set_option linter.unusedSimpArgs false
namespace Go.M
open Go.AV
theorem ix2_cons (b : UInt8) (l p : Str) : Lib.index (b :: l) p = if p.isPrefixOf (b :: l) = true then 0 else if (Lib.index l p == -1) = true then -1 else Lib.index l p + 1 := rfl
theorem ix2_no {c d : UInt8} : ∀ {s : Str}, c ∉ s → Lib.index s [c, d] = -1
  | [], _ => rfl
  | b :: s, h => by
    have hb : ¬ b = c := fun e => h (by rw [e]; exact List.mem_cons_self)
    have hp : ¬ ([c, d] : Str).isPrefixOf (b :: s) = true := by
      simp only [List.isPrefixOf, Bool.and_eq_true, beq_iff_eq, not_and]
      exact fun e => absurd e.symm hb
    rw [ix2_cons, if_neg hp, ix2_no fun hm => h (List.mem_cons_of_mem _ hm)]; rfl
theorem ix2_at {c d : UInt8} : ∀ {a : Str} (s : Str), c ∉ a → Lib.index (a ++ c :: d :: s) [c, d] = (a.length : Int)
  | [], s, _ => by
    show Lib.index (c :: d :: s) [c, d] = _
    rw [ix2_cons, if_pos (by simp [List.isPrefixOf])]; rfl
  | b :: a, s, h => by
    show Lib.index (b :: (a ++ c :: d :: s)) [c, d] = _
    have hb : ¬ b = c := fun e => h (by rw [e]; exact List.mem_cons_self)
    have hp : ¬ ([c, d] : Str).isPrefixOf (b :: (a ++ c :: d :: s)) = true := by
      simp only [List.isPrefixOf, Bool.and_eq_true, beq_iff_eq, not_and]
      exact fun e => absurd e.symm hb
    rw [ix2_cons, if_neg hp, ix2_at s fun hm => h (List.mem_cons_of_mem _ hm), if_neg (by simp)]
    simp
def joinW : List Str → Str
  | [] => []
  | [p] => p
  | p :: q :: r => p ++ 59 :: 32 :: joinW (q :: r)
theorem joinW_snoc (o : Str) : ∀ {l : List Str}, l ≠ [] → joinW (l ++ [o]) = joinW l ++ 59 :: 32 :: o
  | [], h => absurd rfl h
  | [p], _ => rfl
  | p :: q :: r, _ => by
    show p ++ 59 :: 32 :: joinW ((q :: r) ++ [o]) = (p ++ 59 :: 32 :: joinW (q :: r)) ++ 59 :: 32 :: o
    rw [joinW_snoc o (l := q :: r) (by simp)]
    simp
theorem joinW_lib : ∀ l : List Str, Lib.join l [59, 32] = joinW l
  | [] => rfl
  | [p] => Lib.join_one _ _
  | p :: q :: r => by
    have h := joinW_lib (q :: r)
    rw [Lib.join_cons] at h ⊢
    show p ++ (([59, 32] ++ q) ++ Lib.joinTail [59, 32] r) = p ++ 59 :: 32 :: joinW (q :: r)
    rw [← h]; simp
def cutW (s : Str) : List Str := Lib.split s [59, 32]
theorem splitK_join : ∀ {l : List Str} {k : Nat}, l ≠ [] → (∀ p ∈ l, (59 : UInt8) ∉ p) → l.length ≤ k + 1 → Lib.splitK [59, 32] 0 k (joinW l) = l
  | [], _, h, _, _ => absurd rfl h
  | [p], 0, _, _, _ => rfl
  | [p], k + 1, _, h, _ => by
    show (if Lib.index p [59, 32] == -1 then [p] else _) = _
    rw [ix2_no (h p List.mem_cons_self)]; rfl
  | p :: q :: r, 0, _, _, hk => by simp at hk
  | p :: q :: r, k + 1, _, h, hk => by
    have hi := ix2_at (d := 32) (joinW (q :: r)) (h p List.mem_cons_self)
    have hj : joinW (p :: q :: r) = p ++ 59 :: 32 :: joinW (q :: r) := rfl
    rw [hj]
    unfold Lib.splitK
    rw [hi, if_neg (by simp)]
    have e1 : (p ++ 59 :: 32 :: joinW (q :: r)).take (((p.length : Nat) : Int).toNat + 0) = p := by simp
    have e2 : (p ++ 59 :: 32 :: joinW (q :: r)).drop (((p.length : Nat) : Int).toNat + ([59, 32] : Str).length) = joinW (q :: r) := by
      rw [Int.toNat_natCast, ← List.drop_drop, List.drop_left' rfl]; rfl
    rw [e1, e2, splitK_join (by simp) (fun x hx => h x (List.mem_cons_of_mem _ hx)) (by simpa using hk)]
theorem countFrom_join : ∀ {l : List Str} {f : Nat}, (∀ p ∈ l, (59 : UInt8) ∉ p) → l.length ≤ f + 1 → l.length ≤ Lib.countFrom [59, 32] f (joinW l) + 1
  | [], _, _, _ => by simp
  | [p], _, _, _ => by simp
  | p :: q :: r, 0, _, hk => by simp at hk
  | p :: q :: r, f + 1, h, hk => by
    have hi := ix2_at (d := 32) (joinW (q :: r)) (h p List.mem_cons_self)
    have ih := countFrom_join (l := q :: r) (f := f) (fun x hx => h x (List.mem_cons_of_mem _ hx)) (by simpa using hk)
    have hj : joinW (p :: q :: r) = p ++ 59 :: 32 :: joinW (q :: r) := rfl
    rw [hj]
    unfold Lib.countFrom
    rw [hi, if_neg (by simp)]
    have e2 : (p ++ 59 :: 32 :: joinW (q :: r)).drop (((p.length : Nat) : Int).toNat + ([59, 32] : Str).length) = joinW (q :: r) := by
      rw [Int.toNat_natCast, ← List.drop_drop, List.drop_left' rfl]; rfl
    rw [e2]
    simp only [List.length_cons] at ih ⊢; omega
theorem joinW_len : ∀ l : List Str, l.length ≤ (joinW l).length + 1
  | [] => by simp
  | [p] => by simp
  | p :: q :: r => by
    have := joinW_len (q :: r)
    show _ ≤ (p ++ 59 :: 32 :: joinW (q :: r)).length + 1
    simp only [List.length_append, List.length_cons] at this ⊢; omega
theorem cutW_join {l : List Str} (hne : l ≠ []) (h : ∀ p ∈ l, (59 : UInt8) ∉ p) : cutW (joinW l) = l :=
  splitK_join hne h (countFrom_join h (by have := joinW_len l; omega))
theorem splitK_len {sep : Str} : ∀ {k : Nat} {s w : Str}, w ∈ Lib.splitK sep 0 k s → w.length ≤ s.length
  | 0, s, w, h => by simp [Lib.splitK] at h; rw [h]; exact Nat.le_refl _
  | k + 1, s, w, h => by
    unfold Lib.splitK at h
    split at h
    · simp at h; rw [h]; exact Nat.le_refl _
    · rcases List.mem_cons.1 h with rfl | h
      · rw [List.length_take]; omega
      · have := splitK_len h; rw [List.length_drop] at this; omega
theorem cutW_len {s w : Str} (h : w ∈ cutW s) : w.length ≤ s.length := splitK_len h
theorem splitC_join : ∀ {l : List Str}, l ≠ [] → (∀ p ∈ l, (59 : UInt8) ∉ p) → splitC 59 (joinW l) = l.head! :: l.tail.map (fun p => 32 :: p)
  | [], h, _ => absurd rfl h
  | [p], _, h => splitC_no (h p List.mem_cons_self)
  | p :: q :: r, _, h => by
    have ih := splitC_join (l := q :: r) (by simp) fun x hx => h x (List.mem_cons_of_mem _ hx)
    show splitC 59 (p ++ 59 :: (32 :: joinW (q :: r))) = _
    rw [splitC_app _ (h p List.mem_cons_self), splitC_cons, if_neg (by decide), ih]
    rfl
def hasValK (k : Int) : Bool := k == 2 || k == 7
def hasByK (k : Int) : Bool := k == 4 || k == 5
def isOp (o : TOp) : Bool := within o.Kind 1 7 && goodKey o.Key && goodVal o.Val && (hasValK o.Kind || o.Val == []) && within o.By (-9999) 9999 && (hasByK o.Kind || o.By == 0)
def goodOps (l : List TOp) : Bool := decide ((l.length : Int) ≤ 8) && !(l.any fun o => !isOp o)
def l5Op (o : TOp) : Bool := if l3Key o.Key = false then false else if hasValK o.Kind = true then l3Val o.Val && (o.By == 0) else if hasByK o.Kind = true then (o.Val == []) && within o.By (-9999) 9999 else (((o.Kind == 1 || o.Kind == 3) || o.Kind == 6) && o.Val == []) && (o.By == 0)
def l5Good (l : List TOp) : Bool := l.all l5Op && decide ((l.length : Int) ≤ 8)
theorem isOp_eq (o : TOp) : isOp o = l5Op o := by
  obtain ⟨K, k, v, b⟩ := o
  unfold isOp l5Op hasValK hasByK within
  dsimp only
  rw [goodKey_eq, goodVal_eq]
  have hv : l3Val [] = true := by decide
  cases hk : l3Key k with
  | false => simp
  | true =>
    simp only [Bool.and_true, Bool.true_eq_false, if_false]
    by_cases h2 : K = 2
    · subst h2; cases l3Val v <;> simp <;> (by_cases hb : b = 0 <;> simp [hb])
    · by_cases h7 : K = 7
      · subst h7; cases l3Val v <;> simp <;> (by_cases hb : b = 0 <;> simp [hb])
      · have e2 : (K == 2) = false := by simpa using h2
        have e7 : (K == 7) = false := by simpa using h7
        by_cases h4 : K = 4
        · subst h4; cases v <;> simp [hv]
        · by_cases h5 : K = 5
          · subst h5; cases v <;> simp [hv]
          · have e4 : (K == 4) = false := by simpa using h4
            have e5 : (K == 5) = false := by simpa using h5
            rw [e2, e7, e4, e5]
            cases v with
            | nil =>
              by_cases hb : b = 0
              · subst hb
                rw [Bool.eq_iff_iff]
                simp [hv]; omega
              · have eb : (b == 0) = false := by simpa using hb
                simp [eb]
            | cons c v => simp
theorem goodOps_eq (l : List TOp) : goodOps l = l5Good l := by
  unfold goodOps l5Good
  rw [List.not_any_eq_all_not, Bool.and_comm]
  congr 1
  congr 1; funext o; rw [Bool.not_not, isOp_eq]
def opWs : List Str := [[], [114, 101, 97, 100], [112, 117, 116], [100, 114, 111, 112], [97, 100, 100], [110, 101, 101, 100], [108, 97, 99, 107], [105, 115]]
def wordOf (k : Int) : Str := opWs.getD k.toNat []
def opHd (o : TOp) : Str := (wordOf o.Kind ++ [32]) ++ o.Key
def opVal (o : TOp) : Str := if hasValK o.Kind = true then opHd o ++ ([32] ++ o.Val) else opHd o
def opB (o : TOp) : Str := if hasByK o.Kind = true then opVal o ++ ([32] ++ itoaD o.By) else opVal o
def opsB (l : List TOp) : Str := joinW (l.map opB)
theorem opsB_snoc {l : List TOp} (o : TOp) (h : l ≠ []) : opsB (l ++ [o]) = opsB l ++ ([59, 32] ++ opB o) := by
  unfold opsB
  rw [List.map_append]
  show joinW (l.map opB ++ [opB o]) = _
  rw [joinW_snoc _ (by simpa using h)]; rfl
def l5N (s : Str) : Int × Bool :=
  if (decide (l1R (if s.head? = some 45 then s.drop 1 else s) < 0) || (decide (s.head? = some 45) && (l1R (if s.head? = some 45 then s.drop 1 else s) == 0))) = true then (0, false)
  else if s.head? = some 45 then (-(l1R (s.drop 1)), true) else (l1R s, true)
def idxF : List Str → Str → Nat → Int
  | [], _, _ => -1
  | x :: l, s, n => if s = x then (n : Int) else idxF l s (n + 1)
def idxW (w : Str) : Int := idxF opWs w 0
def opOf (w : List Str) : TOp :=
  ⟨idxW (w.getD 0 []), w.getD 1 [], if w.length = 3 ∧ hasValK (idxW (w.getD 0 [])) = true then w.getD 2 [] else [], if w.length = 3 ∧ hasByK (idxW (w.getD 0 [])) = true then (readI (w.getD 2 []) (-9999) 9999).1 else 0⟩
def partsI : List Str → Option (List TOp)
  | [] => some []
  | p :: r => if (splitC 32 p).length < 2 then none else (partsI r).map (opOf (splitC 32 p) :: ·)
def endO (s : Str) (l : List TOp) : List TOp × Bool := if (!goodOps l || (opsB l != s)) = true then ([], false) else (l, true)
def endP (s : Str) : Option (List TOp) → List TOp × Bool
  | none => ([], false)
  | some l => endO s l
def parseO (s : Str) : List TOp × Bool := if s = [] then ([], true) else if 400 < s.length then ([], false) else endP s (partsI (cutW s))
def kindN (w : Str) : Nat → Int
  | 0 => 0
  | k + 1 => if 0 < k ∧ opWs[k]? = some w then (k : Int) else kindN w k
def kindS (w : Str) : Int := kindN w 8
def opOfS (w : List Str) : TOp :=
  ⟨kindS (w.getD 0 []), w.getD 1 [], if 2 < w.length ∧ hasValK (kindS (w.getD 0 [])) = true then w.getD 2 [] else [], if 2 < w.length ∧ hasValK (kindS (w.getD 0 [])) = false then (l5N (w.getD 2 [])).1 else 0⟩
def partsT : List Str → Option (List TOp)
  | [] => some []
  | p :: r => if p = [] then none else (partsT r).map (opOfS (splitC 32 (p.drop 1)) :: ·)
def partsS : List Str → Option (List TOp)
  | [] => some []
  | p :: r => (partsT r).map (opOfS (splitC 32 p) :: ·)
def parseOS (s : Str) : List TOp × Bool := if 400 < s.length then ([], false) else endP s (if s = [] then some [] else partsS (splitC 59 s))
structure GoodO (o : TOp) : Prop where
  kind : 1 ≤ o.Kind ∧ o.Kind ≤ 7
  key : (32 : UInt8) ∉ o.Key ∧ (59 : UInt8) ∉ o.Key
  val : (32 : UInt8) ∉ o.Val ∧ (59 : UInt8) ∉ o.Val
  noval : hasValK o.Kind = false → o.Val = []
  noby : hasByK o.Kind = false → o.By = 0
  by' : -9999 ≤ o.By ∧ o.By ≤ 9999
theorem goodO {o : TOp} (h : isOp o = true) : GoodO o := by
  unfold isOp at h
  rw [goodKey_eq, goodVal_eq] at h
  simp only [Bool.and_eq_true] at h
  obtain ⟨⟨⟨⟨⟨h1, h2⟩, h3⟩, h4⟩, h5⟩, h6⟩ := h
  have hk : 1 ≤ o.Kind ∧ o.Kind ≤ 7 := by unfold within at h1; simpa using h1
  have hb : -9999 ≤ o.By ∧ o.By ≤ 9999 := by unfold within at h5; simpa using h5
  unfold l3Key at h2
  unfold l3Val at h3
  simp only [Bool.and_eq_true] at h2 h3
  exact ⟨hk, ⟨l3_no h2.2 (by decide), l3_no h2.2 (by decide)⟩, ⟨l3_no h3.2 (by decide), l3_no h3.2 (by decide)⟩, fun e => by rw [e] at h4; simpa using h4, fun e => by rw [e] at h6; simpa using h6, hb⟩
theorem wordOf_mem {k : Int} (h : 1 ≤ k ∧ k ≤ 7) : ∀ P : Int → Prop, P 1 → P 2 → P 3 → P 4 → P 5 → P 6 → P 7 → P k := fun P h1 h2 h3 h4 h5 h6 h7 => by
  have : k = 1 ∨ k = 2 ∨ k = 3 ∨ k = 4 ∨ k = 5 ∨ k = 6 ∨ k = 7 := by omega
  rcases this with e | e | e | e | e | e | e <;> (subst e; assumption)
theorem word_no {k : Int} (h : 1 ≤ k ∧ k ≤ 7) : (32 : UInt8) ∉ wordOf k ∧ (59 : UInt8) ∉ wordOf k :=
  wordOf_mem h (fun k => (32 : UInt8) ∉ wordOf k ∧ (59 : UInt8) ∉ wordOf k) (by decide) (by decide) (by decide) (by decide) (by decide) (by decide) (by decide)
theorem word_idx {k : Int} (h : 1 ≤ k ∧ k ≤ 7) : idxW (wordOf k) = k ∧ kindS (wordOf k) = k :=
  wordOf_mem h (fun k => idxW (wordOf k) = k ∧ kindS (wordOf k) = k) (by decide) (by decide) (by decide) (by decide) (by decide) (by decide) (by decide)
theorem itoa_minus {n : Nat} (h : 1 ≤ n) : itoaD (-(n : Int)) = 45 :: decD n := by
  show Lib.itoa _ = _
  unfold Lib.itoa
  rw [if_pos (by omega)]; simp
theorem itoa_no {n : Int} {c : UInt8} (h : (c.toNat < 48 ∨ 57 < c.toNat) ∧ c ≠ 45) : c ∉ itoaD n := by
  show c ∉ Lib.itoa n
  unfold Lib.itoa
  split
  · intro hm
    rcases List.mem_cons.1 hm with e | hm
    · exact h.2 e
    · exact dec_no h.1 hm
  · exact dec_no h.1
theorem atoi_minus {n : Nat} (h1 : 1 ≤ n) (h : n ≤ 1000000000000) : Lib.atoiAll (45 :: decD n) = .ok (-(n : Int)) := by
  have hp := pu_dec n h
  cases hl : decD n with
  | nil => exact absurd hl (decD_ne n)
  | cons c r =>
    rw [hl] at hp
    unfold Lib.atoiAll Lib.parseMag
    dsimp only
    rw [if_pos (show (45 : UInt8).toNat = 43 ∨ (45 : UInt8).toNat = 45 from .inr rfl), if_neg (by simp), hp]
    dsimp only
    rw [if_neg (by simp), if_neg (by simp; omega), if_pos (by rfl)]
theorem readI_itoa {n lo hi : Int} (hn : -1000000 ≤ n ∧ n ≤ 1000000) (hw : within n lo hi = true) : readI (itoaD n) lo hi = (n, true) := by
  by_cases h0 : 0 ≤ n
  · obtain ⟨m, rfl⟩ : ∃ m : Nat, n = (m : Int) := ⟨n.toNat, by omega⟩
    rw [itoa_nat, readI_dec (by omega) hw]
  · obtain ⟨m, rfl⟩ : ∃ m : Nat, n = -(m : Int) := ⟨n.natAbs, by omega⟩
    have e0 := itoa_minus (n := m) (by omega)
    have e := atoi_minus (n := m) (by omega) (by omega)
    have e1 : atoiV (itoaD (-(m : Int))) = -(m : Int) := by unfold atoiV; rw [e0, e]
    have e2 : atoiBad (itoaD (-(m : Int))) = false := by unfold atoiBad; rw [e0, e]
    unfold readI
    rw [e1, e2, hw, if_neg (by simp)]
theorem dec_head {n : Nat} : (decD n).head? ≠ some 45 := fun h => by
  have := decD_dig n 45 (List.mem_of_mem_head? h)
  revert this; decide
theorem l5N_itoa {n : Int} (hn : -999999 ≤ n ∧ n ≤ 999999) : l5N (itoaD n) = (n, true) := by
  by_cases h0 : 0 ≤ n
  · obtain ⟨m, rfl⟩ : ∃ m : Nat, n = (m : Int) := ⟨n.toNat, by omega⟩
    have e := l1R_dec (n := m) (by omega)
    unfold l5N
    rw [itoa_nat, if_neg (c := (decD m).head? = some 45) dec_head, e, if_neg (by simp [dec_head]), if_neg dec_head]
  · obtain ⟨m, rfl⟩ : ∃ m : Nat, n = -(m : Int) := ⟨n.natAbs, by omega⟩
    have e := l1R_dec (n := m) (by omega)
    have hh : (45 :: decD m : Str).head? = some 45 := rfl
    have hd : (45 :: decD m : Str).drop 1 = decD m := rfl
    unfold l5N
    rw [itoa_minus (by omega), if_pos (c := (45 :: decD m : Str).head? = some 45) hh, hd, e, if_neg (by simp; omega), if_pos hh]
theorem opB_eq {o : TOp} (h : GoodO o) : opB o = wordOf o.Kind ++ 32 :: (o.Key ++ (if hasValK o.Kind = true then 32 :: o.Val else if hasByK o.Kind = true then 32 :: itoaD o.By else [])) := by
  have hvb : hasValK o.Kind = true → hasByK o.Kind = false := by
    unfold hasValK hasByK; intro e
    simp only [Bool.or_eq_true, beq_iff_eq] at e
    rcases e with e | e <;> rw [e] <;> rfl
  unfold opB opVal opHd
  cases h1 : hasValK o.Kind with
  | true => rw [hvb h1]; simp
  | false => cases h2 : hasByK o.Kind <;> simp
theorem opB_no {o : TOp} (h : GoodO o) : (59 : UInt8) ∉ opB o := by
  rw [opB_eq h]
  have h1 : (59 : UInt8) ∉ (if hasValK o.Kind = true then 32 :: o.Val else if hasByK o.Kind = true then 32 :: itoaD o.By else []) := by
    split
    · exact fun hm => (List.mem_cons.1 hm).elim (by decide) h.val.2
    · split
      · exact fun hm => (List.mem_cons.1 hm).elim (by decide) (itoa_no (by decide))
      · simp
  exact not_app (word_no h.kind).2 fun hm => (List.mem_cons.1 hm).elim (by decide) (not_app h.key.2 h1)
theorem opB_split {o : TOp} (h : GoodO o) : splitC 32 (opB o) = [wordOf o.Kind, o.Key] ++ (if hasValK o.Kind = true then [o.Val] else if hasByK o.Kind = true then [itoaD o.By] else []) := by
  rw [opB_eq h, splitC_app _ (word_no h.kind).1]
  split
  · rw [splitC_app _ h.key.1, splitC_no h.val.1]; rfl
  · split
    · rw [splitC_app _ h.key.1, splitC_no (itoa_no (by decide))]; rfl
    · rw [List.append_nil, splitC_no h.key.1]; rfl
theorem opOf_back {o : TOp} (h : GoodO o) : ¬ (splitC 32 (opB o)).length < 2 ∧ opOf (splitC 32 (opB o)) = o ∧ opOfS (splitC 32 (opB o)) = o := by
  have hw := word_idx h.kind
  have hvb : hasValK o.Kind = true → hasByK o.Kind = false := by
    unfold hasValK hasByK; intro e
    simp only [Bool.or_eq_true, beq_iff_eq] at e
    rcases e with e | e <;> rw [e] <;> rfl
  have hr := readI_itoa (n := o.By) (lo := -9999) (hi := 9999) (by have := h.by'; omega) (by unfold within; have := h.by'; simp; omega)
  have hl := l5N_itoa (n := o.By) (by have := h.by'; omega)
  rw [opB_split h]
  unfold opOf opOfS
  obtain ⟨K, k, v, b⟩ := o
  have h3 := h.noval; have h4 := h.noby
  dsimp only at *
  cases h1 : hasValK K with
  | true =>
    have hb := hvb h1
    refine ⟨by simp, ?_, ?_⟩
    · simp [hw.1, h1, hb, h4 hb]
    · simp [hw.2, h1, h4 hb]
  | false =>
    have hv := h3 h1
    cases h2 : hasByK K with
    | true =>
      refine ⟨by simp, ?_, ?_⟩
      · simp [hw.1, h1, h2, hv, hr]
      · simp [hw.2, h1, hv, hl]
    | false =>
      have hb := h4 h2
      refine ⟨by simp, ?_, ?_⟩
      · simp [hw.1, hv, hb]
      · simp [hw.2, hv, hb]
theorem goodOps_mem {l : List TOp} (h : goodOps l = true) : ∀ o ∈ l, GoodO o := fun o ho => by
  rw [goodOps_eq] at h
  unfold l5Good at h
  rw [Bool.and_eq_true, List.all_eq_true] at h
  exact goodO (by rw [isOp_eq]; exact h.1 o ho)
theorem partsI_back : ∀ {l : List TOp}, (∀ o ∈ l, GoodO o) → partsI (l.map opB) = some l
  | [], _ => rfl
  | o :: l, h => by
    obtain ⟨h1, h2, _⟩ := opOf_back (h o List.mem_cons_self)
    show (if (splitC 32 (opB o)).length < 2 then none else _) = _
    rw [if_neg h1, partsI_back fun x hx => h x (List.mem_cons_of_mem _ hx), h2]; rfl
theorem partsT_back : ∀ {l : List TOp}, (∀ o ∈ l, GoodO o) → partsT ((l.map opB).map fun p => 32 :: p) = some l
  | [], _ => rfl
  | o :: l, h => by
    obtain ⟨_, _, h2⟩ := opOf_back (h o List.mem_cons_self)
    show (if (32 :: opB o : Str) = [] then none else (partsT ((l.map opB).map fun p => 32 :: p)).map (opOfS (splitC 32 ((32 :: opB o : Str).drop 1)) :: ·)) = _
    rw [if_neg (by simp), partsT_back fun x hx => h x (List.mem_cons_of_mem _ hx)]
    show some (opOfS (splitC 32 (opB o)) :: l) = _
    rw [h2]
theorem opsB_no {l : List TOp} (h : ∀ o ∈ l, GoodO o) : ∀ p ∈ l.map opB, (59 : UInt8) ∉ p := fun p hp => by
  obtain ⟨o, ho, rfl⟩ := List.mem_map.1 hp
  exact opB_no (h o ho)
theorem opB_ne (o : TOp) : opB o ≠ [] := by
  unfold opB opVal opHd
  split <;> split <;> simp
theorem opsB_ne {l : List TOp} (h : l ≠ []) : opsB l ≠ [] := by
  cases l with
  | nil => exact absurd rfl h
  | cons o r =>
    cases r with
    | nil => exact opB_ne o
    | cons p r => show opB o ++ 59 :: 32 :: joinW ((p :: r).map opB) ≠ []; simp
theorem parseO_back {l : List TOp} (h : goodOps l = true) (hl : (opsB l).length ≤ 400) : parseO (opsB l) = (l, true) := by
  by_cases hne : l = []
  · subst hne; rfl
  · have hm := goodOps_mem h
    unfold parseO
    rw [if_neg (opsB_ne hne), if_neg (by omega)]
    show endP (opsB l) (partsI (cutW (joinW (l.map opB)))) = _
    rw [cutW_join (by simpa using hne) (opsB_no hm), partsI_back hm]
    show endO (opsB l) l = _
    unfold endO
    rw [if_neg (by simp [h])]
theorem parseOS_back {l : List TOp} (h : goodOps l = true) (hl : (opsB l).length ≤ 400) : parseOS (opsB l) = (l, true) := by
  have he : endO (opsB l) l = (l, true) := by unfold endO; rw [if_neg (by simp [h])]
  by_cases hne : l = []
  · subst hne; rfl
  · have hm := goodOps_mem h
    unfold parseOS
    rw [if_neg (by omega), if_neg (opsB_ne hne)]
    have e : partsS (splitC 59 (opsB l)) = some l := by
      show partsS (splitC 59 (joinW (l.map opB))) = _
      rw [splitC_join (by simpa using hne) (opsB_no hm)]
      cases l with
      | nil => exact absurd rfl hne
      | cons o r =>
        show (partsT ((r.map opB).map fun p => 32 :: p)).map (opOfS (splitC 32 (opB o)) :: ·) = _
        rw [partsT_back fun x hx => hm x (List.mem_cons_of_mem _ hx), (opOf_back (hm o List.mem_cons_self)).2.2]; rfl
    rw [e]
    exact he
theorem endO_cases (s : Str) (l : List TOp) : endO s l = ([], false) ∨ (endO s l = (l, true) ∧ goodOps l = true ∧ opsB l = s) := by
  unfold endO
  split
  · exact .inl rfl
  · rename_i h
    simp at h
    exact .inr ⟨rfl, h.1, h.2⟩
theorem parseO_cases (s : Str) : parseO s = ([], false) ∨ ∃ l, parseO s = (l, true) ∧ goodOps l = true ∧ opsB l = s ∧ s.length ≤ 400 := by
  unfold parseO
  split
  · rename_i h; subst h; exact .inr ⟨[], rfl, by decide, rfl, by simp⟩
  · split
    · exact .inl rfl
    · rename_i hl
      cases partsI (cutW s) with
      | none => exact .inl rfl
      | some l =>
        rcases endO_cases s l with e | ⟨e, h1, h2⟩
        · exact .inl e
        · exact .inr ⟨l, e, h1, h2, by omega⟩
theorem parseOS_cases (s : Str) : parseOS s = ([], false) ∨ ∃ l, parseOS s = (l, true) ∧ goodOps l = true ∧ opsB l = s ∧ s.length ≤ 400 := by
  unfold parseOS
  split
  · exact .inl rfl
  · rename_i hl
    cases (if s = [] then some [] else partsS (splitC 59 s)) with
    | none => exact .inl rfl
    | some l =>
      rcases endO_cases s l with e | ⟨e, h1, h2⟩
      · exact .inl e
      · exact .inr ⟨l, e, h1, h2, by omega⟩
theorem parseO_eq (s : Str) : parseO s = parseOS s := by
  rcases parseO_cases s with e | ⟨l, e, h1, h2, h3⟩
  · rcases parseOS_cases s with e' | ⟨l, e', h1, h2, h3⟩
    · rw [e, e']
    · subst h2; rw [parseO_back h1 h3] at e; cases e
  · subst h2; rw [parseOS_back h1 h3, parseO_back h1 h3]
theorem idxF_next {l : List Str} {s x : Str} {i : Nat} (hx : l[i]? = some x) (h : s ≠ x) : idxF (l.drop i) s i = idxF (l.drop (i + 1)) s (i + 1) := by
  rw [drop_some hx]; conv => lhs; unfold idxF
  rw [if_neg h]
theorem idxF_here {l : List Str} {s x : Str} {i : Nat} (hx : l[i]? = some x) (h : s = x) : idxF (l.drop i) s i = (i : Int) := by
  rw [drop_some hx]; unfold idxF; rw [if_pos h]
theorem idxF_end {l : List Str} {s : Str} {i : Nat} (h : l.length ≤ i) : idxF (l.drop i) s i = -1 := by
  rw [List.drop_eq_nil_of_le h]; rfl
theorem goodOps_len {l : List TOp} (h : goodOps l = true) : l.length ≤ 8 := by
  unfold goodOps at h
  simp only [Bool.and_eq_true, decide_eq_true_eq] at h
  have := h.1; omega
theorem itoa_len5 {n : Int} (h : -9999 ≤ n ∧ n ≤ 9999) : (itoaD n).length ≤ 5 := by
  by_cases h0 : 0 ≤ n
  · rw [itoa_pos h0]
    have := decD_len (k := 4) (n := n.toNat) (by omega) (by decide); omega
  · obtain ⟨m, rfl⟩ : ∃ m : Nat, n = -(m : Int) := ⟨n.natAbs, by omega⟩
    rw [itoa_minus (by omega)]
    have := decD_len (k := 4) (n := m) (by omega) (by decide)
    simp only [List.length_cons]; omega
theorem word_len {k : Int} (h : 1 ≤ k ∧ k ≤ 7) : (wordOf k).length ≤ 4 :=
  wordOf_mem h (fun k => (wordOf k).length ≤ 4) (by decide) (by decide) (by decide) (by decide) (by decide) (by decide) (by decide)
theorem isOp_lens {o : TOp} (h : isOp o = true) : o.Key.length ≤ 12 ∧ o.Val.length ≤ 24 := by
  unfold isOp at h
  rw [goodKey_eq, goodVal_eq] at h
  simp only [Bool.and_eq_true] at h
  obtain ⟨⟨⟨⟨⟨_, h2⟩, h3⟩, _⟩, _⟩, _⟩ := h
  unfold l3Key at h2
  unfold l3Val at h3
  simp only [Bool.and_eq_true] at h2 h3
  have h4 := h2.1; have h5 := h3.1
  unfold within at h4
  simp at h4 h5
  omega
theorem opB_len {o : TOp} (h : isOp o = true) : (opB o).length ≤ 50 := by
  have h1 := goodO h
  have h2 := isOp_lens h
  have h3 := itoa_len5 h1.by'
  have h4 := word_len h1.kind
  rw [opB_eq h1]
  split
  · simp only [List.length_append, List.length_cons]; omega
  · split
    · simp only [List.length_append, List.length_cons]; omega
    · simp only [List.length_append, List.length_cons, List.length_nil]; omega
theorem joinW_le {m : Nat} : ∀ {l : List Str}, (∀ p ∈ l, p.length ≤ m) → (joinW l).length ≤ l.length * (m + 2)
  | [], _ => Nat.zero_le _
  | [p], h => by have := h p List.mem_cons_self; simp only [joinW, List.length_cons, List.length_nil]; omega
  | p :: q :: r, h => by
    have h1 := h p List.mem_cons_self
    have h2 := joinW_le (m := m) (l := q :: r) fun x hx => h x (List.mem_cons_of_mem _ hx)
    show (p ++ 59 :: 32 :: joinW (q :: r)).length ≤ _
    simp only [List.length_append, List.length_cons, Nat.add_mul] at h2 ⊢; omega
theorem goodOps_is {l : List TOp} (h : goodOps l = true) : ∀ o ∈ l, isOp o = true := fun o ho => by
  rw [goodOps_eq] at h
  unfold l5Good at h
  rw [Bool.and_eq_true, List.all_eq_true] at h
  rw [isOp_eq]; exact h.1 o ho
theorem opsB_len {l : List TOp} (h : goodOps l = true) : (opsB l).length ≤ 416 := by
  have h1 := joinW_le (m := 50) (l := l.map opB) fun p hp => by
    obtain ⟨o, ho, rfl⟩ := List.mem_map.1 hp
    exact opB_len (goodOps_is h o ho)
  have h2 := goodOps_len h
  rw [List.length_map] at h1
  unfold opsB
  have : l.length * 52 ≤ 8 * 52 := Nat.mul_le_mul_right _ h2
  omega
theorem partsI_step {W : List Str} {q : List TOp} {i : Nat} {x : Str} (h : partsI W = (partsI (W.drop i)).map (q ++ ·)) (hx : W[i]? = some x) (h2 : ¬ (splitC 32 x).length < 2) : partsI W = (partsI (W.drop (i + 1))).map ((q ++ [opOf (splitC 32 x)]) ++ ·) := by
  rw [h, drop_some hx]
  conv => lhs; unfold partsI
  rw [if_neg h2, Option.map_map]
  congr 1
  funext l; simp
theorem partsI_stop {W : List Str} {q : List TOp} {i : Nat} {x : Str} (h : partsI W = (partsI (W.drop i)).map (q ++ ·)) (hx : W[i]? = some x) (h2 : (splitC 32 x).length < 2) : partsI W = none := by
  rw [h, drop_some hx]; unfold partsI; rw [if_pos h2]; rfl
theorem partsI_end {W : List Str} {q : List TOp} {i : Nat} (h : partsI W = (partsI (W.drop i)).map (q ++ ·)) (hi : W.length ≤ i) : partsI W = some q := by
  rw [h, List.drop_eq_nil_of_le hi]; simp [partsI]
def partsX (k : Nat) (l : List Str) : Option (List TOp) := if k = 0 then partsS l else partsT l
theorem partsX_step {W : List Str} {q : List TOp} {i : Nat} {x : Str} (h : partsS W = (partsX i (W.drop i)).map (q ++ ·)) (hx : W[i]? = some x) (h2 : 0 < i → x ≠ []) : partsS W = (partsX (i + 1) (W.drop (i + 1))).map ((q ++ [opOfS (splitC 32 (if 0 < i then x.drop 1 else x))]) ++ ·) := by
  rw [h, drop_some hx]
  unfold partsX
  rw [if_neg (Nat.succ_ne_zero i)]
  by_cases hi : i = 0
  · subst hi
    rw [if_pos rfl, if_neg (Nat.lt_irrefl 0)]
    conv => lhs; unfold partsS
    rw [Option.map_map]; congr 1
    funext l; simp
  · rw [if_neg hi, if_pos (by omega)]
    conv => lhs; unfold partsT
    rw [if_neg (h2 (by omega)), Option.map_map]; congr 1
    funext l; simp
theorem partsX_stop {W : List Str} {q : List TOp} {i : Nat} {x : Str} (h : partsS W = (partsX i (W.drop i)).map (q ++ ·)) (hx : W[i]? = some x) (hi : 0 < i) (h2 : x = []) : partsS W = none := by
  rw [h, drop_some hx]; unfold partsX; rw [if_neg (by omega)]; unfold partsT; rw [if_pos h2]; rfl
theorem partsX_end {W : List Str} {q : List TOp} {i : Nat} (h : partsS W = (partsX i (W.drop i)).map (q ++ ·)) (hi : W.length ≤ i) : partsS W = some q := by
  rw [h, List.drop_eq_nil_of_le hi]; unfold partsX; split <;> simp [partsS, partsT]
theorem opsB_take {l : List TOp} (h : goodOps l = true) (i : Nat) : (opsB (l.take i)).length ≤ 416 := by
  have h1 := joinW_le (m := 50) (l := (l.take i).map opB) fun p hp => by
    obtain ⟨o, ho, rfl⟩ := List.mem_map.1 hp
    exact opB_len (goodOps_is h o (List.mem_of_mem_take ho))
  have h2 := goodOps_len h
  rw [List.length_map, List.length_take] at h1
  unfold opsB
  have : min i l.length * 52 ≤ 8 * 52 := Nat.mul_le_mul_right _ (by omega)
  omega
theorem ops_next {l : List TOp} {i : Nat} {x : TOp} (hx : l[i]? = some x) : opsB (l.take (i + 1)) = (if 0 < i then opsB (l.take i) ++ [59, 32] else opsB (l.take i)) ++ opB x := by
  rw [List.take_add_one, hx]
  by_cases hi : 0 < i
  · rw [if_pos hi]
    have hne : l.take i ≠ [] := by
      intro e
      have := (List.getElem?_eq_some_iff.1 hx).1
      rw [List.take_eq_nil_iff] at e
      rcases e with e | e
      · omega
      · subst e; simp at hx
    show opsB (l.take i ++ [x]) = _
    rw [opsB_snoc x hne, List.append_assoc]
  · rw [if_neg hi]
    have : i = 0 := by omega
    subst this
    rfl
theorem opOf_cs {w r : List Str} {y0 y1 y2 : Str} (hw : w = y0 :: y1 :: r) (h2 : 2 < (y0 :: y1 :: r).length → (y0 :: y1 :: r)[2]? = some y2) : (opOf w).cs = [AV.int (idxW y0), AV.str y1, AV.str (if (y0 :: y1 :: r).length = 3 ∧ hasValK (idxW y0) = true then y2 else []), AV.int (if (y0 :: y1 :: r).length = 3 ∧ hasByK (idxW y0) = true then (readI y2 (-9999) 9999).1 else 0)] := by
  subst hw
  have e : ∀ {b : Prop}, (y0 :: y1 :: r).length = 3 ∧ b → (y0 :: y1 :: r).getD 2 [] = y2 := fun h => by
    rw [List.getD_eq_getElem?_getD, h2 (by have := h.1; omega)]; rfl
  unfold opOf TOp.cs
  dsimp only
  congr 1
  refine congrArg (fun z => AV.str y1 :: z) ?_
  have e1 : (if (y0 :: y1 :: r).length = 3 ∧ hasValK (idxW y0) = true then (y0 :: y1 :: r).getD 2 [] else []) = if (y0 :: y1 :: r).length = 3 ∧ hasValK (idxW y0) = true then y2 else [] := by
    split
    · rename_i h; exact e h
    · rfl
  have e2 : (if (y0 :: y1 :: r).length = 3 ∧ hasByK (idxW y0) = true then (readI ((y0 :: y1 :: r).getD 2 []) (-9999) 9999).1 else 0) = if (y0 :: y1 :: r).length = 3 ∧ hasByK (idxW y0) = true then (readI y2 (-9999) 9999).1 else 0 := by
    split
    · rename_i h; rw [e h]
    · rfl
  show [AV.str (if (y0 :: y1 :: r).length = 3 ∧ hasValK (idxW y0) = true then (y0 :: y1 :: r).getD 2 [] else []), AV.int (if (y0 :: y1 :: r).length = 3 ∧ hasByK (idxW y0) = true then (readI ((y0 :: y1 :: r).getD 2 []) (-9999) 9999).1 else 0)] = _
  rw [e1, e2]
def opsTextR (l : List TOp) : Str × Bool := if goodOps l = true then (opsB l, true) else ([], false)
end Go.M

set_option linter.unusedVariables false
set_option linter.unusedSimpArgs false
namespace Go.AV
open Go.ChangeShapes Go.WideShapes Go.ChangeAt Go.RowKit

def heapR (w : World) : RHeap := fun b => w.heap[b]?
theorem heapR_le (w : World) : RLe (heapR w) w := fun _ _ h => h
theorem rcell_heap {w : World} {a : Addr} {v : Value} (h : w.cell? a = some v) : rcell (heapR w) a = some v := h

def Opens (P : Program) (t : TypeId) (α : Type) (enc : α → List AV) (ok : α → Prop) : Prop :=
  ∀ (H : Type) (en : TypeId × Value → H) (w : World) (base : Nat) (spare : Nat → Bool) (held : Bool) (fuel : Nat) (cs : List Value) (x : DataW H × List MemPlace),
    DataW.trod en P w base spare held fuel t cs = some x → ∃ a : α, ok a ∧ DenC (heapR w) cs (enc a)
theorem denC_one {R : RHeap} {v : Value} {x : AV} (h : x.den R v) (h1 : v.oneCell' = true) : DenC R [v] [x] :=
  ⟨rfl, fun i u y hu hy => by
    cases i with
    | zero => simp at hu hy; subst hu; subst hy; exact ⟨h, h1⟩
    | succ i => simp at hu⟩
section
variable {P : Program} {t e : TypeId}
theorem opens_int {k : IntKind} (ht : P.underlying t = some (.int k)) : Opens P t Int (fun n => [AV.ik k n]) (fun n => (Lit.int k n).wf = true) := fun H en w base spare held fuel cs x h => by
  obtain ⟨n, rfl, _, hw⟩ := DataW.trod_int ht h
  exact ⟨n, hw, denC_one rfl rfl⟩
theorem list_of {α : Type} {p : Nat → α → Prop} : ∀ n, (∀ i, i < n → ∃ a, p i a) → ∃ l : List α, l.length = n ∧ ∀ (i : Nat) (a : α), l[i]? = some a → p i a
  | 0, _ => ⟨[], rfl, fun i a h => by simp at h⟩
  | n + 1, h => by
    obtain ⟨l, h1, h2⟩ := list_of n fun i hi => h i (by omega)
    obtain ⟨a, ha⟩ := h n (by omega)
    refine ⟨l ++ [a], by simp [h1], fun i b hb => ?_⟩
    by_cases hi : i < l.length
    · rw [List.getElem?_append_left hi] at hb; exact h2 i b hb
    · rw [List.getElem?_append_right (by omega)] at hb
      have hin : i = n := by
        have := (List.getElem?_eq_some_iff.1 hb).1
        simp at this; omega
      subst hin
      rw [h1] at hb; simp at hb; subst hb; exact ha
theorem opens_slice {α : Type} {enc : α → List AV} {ok : α → Prop} {sz : Nat} (ht : P.underlying t = some (.slice e)) (hc : P.cellsOf e = sz) (h : Opens P e α enc ok) (hl : ∀ a, (enc a).length = sz) :
    Opens P t (List α) (fun l => [AV.list sz (l.map enc)]) (fun l => ∀ a ∈ l, ok a) := fun H en w base spare held fuel cs x hx => by
  rcases DataW.trod_slice ht hx with ⟨rfl, _⟩ | ⟨a, len, cap, elems, rest, n, _, rfl, _, _, hlc, hcm, hel, hi, _, _⟩
  · exact ⟨[], by simp, denC_one ⟨none, 0, rfl, Nat.le_refl _, Nat.zero_le _, by simp, fun h => absurd rfl h⟩ rfl⟩
  · obtain ⟨l, h1, h2⟩ := list_of (p := fun i b => ok b ∧ ∃ cs', w.cells? base (a.add (i * sz)) sz = some cs' ∧ DenC (heapR w) cs' (enc b)) len fun i hil => by
      have := hi i hil
      rw [hc, List.getElem?_eq_getElem (by omega)] at this
      obtain ⟨cs', hcs, htr⟩ := Option.bind_eq_some_iff.1 this
      obtain ⟨b, hb, hd⟩ := h H en w base spare held n cs' _ htr
      exact ⟨b, hb, cs', hcs, hd⟩
    refine ⟨l, fun b hb => ?_, denC_one ⟨some a, cap, by rw [List.length_map, h1], by rw [List.length_map, h1]; exact hlc, hcm, fun ec he => ?_, fun _ => ⟨a, rfl, fun j y hy => ?_⟩⟩ rfl⟩
    · obtain ⟨i, hib⟩ := List.getElem?_of_mem hb
      exact (h2 i b hib).1
    · obtain ⟨b, _, rfl⟩ := List.mem_map.1 he
      exact hl b
    · have hun : ∀ ec ∈ l.map enc, ec.length = sz := fun ec he => by
        obtain ⟨b, _, rfl⟩ := List.mem_map.1 he
        exact hl b
      have hjl : j < l.length * sz := by
        have := (List.getElem?_eq_some_iff.1 hy).1
        rwa [flatten_len hun, List.length_map] at this
      have hsz : 0 < sz := by
        rcases Nat.eq_zero_or_pos sz with h0 | h0
        · subst h0; omega
        · exact h0
      have hij : j / sz < l.length := Nat.div_lt_of_lt_mul (by rw [Nat.mul_comm]; exact hjl)
      have hkm : j % sz < sz := Nat.mod_lt _ hsz
      have hjj : j / sz * sz + j % sz = j := by rw [Nat.mul_comm]; exact Nat.div_add_mod j sz
      have hb : l[j / sz]? = some l[j / sz] := List.getElem?_eq_getElem hij
      obtain ⟨_, cs', hcs, hd⟩ := h2 _ _ hb
      obtain ⟨_, hcl, hat⟩ := World.cells?_some hcs
      have hk : (enc l[j / sz])[j % sz]? = some ((enc l[j / sz])[j % sz]'(by rw [hl]; exact hkm)) := List.getElem?_eq_getElem _
      have hyk := flatten_get hun (i := j / sz) (e := enc l[j / sz]) (by rw [List.getElem?_map, hb]; rfl) hk
      rw [hjj, hy] at hyk
      injection hyk with hyk
      have hv : cs'[j % sz]? = some (cs'[j % sz]'(by rw [hcl]; exact hkm)) := List.getElem?_eq_getElem _
      have hcell := hat (j % sz) hkm
      rw [hv, add_add, hjj] at hcell
      refine ⟨_, rcell_heap hcell, ?_⟩
      have := hd.2 _ _ _ hv hk
      rw [hyk]; exact this
theorem arg_one {H : Type} {en : TypeId × Value → H} {W : World} {base : Nat} {spare : Nat → Bool} {held : Bool} {α : Type} {enc : α → AV} {ok : α → Prop} {v : Value} {d : DataW H} {p : List MemPlace}
    (h : Opens P t α (fun a => [enc a]) ok) (h1 : v.cells = #[v]) (hd : DataW.Trod en P W base spare held t v d p) : ∃ a, ok a ∧ (enc a).den (heapR W) v := by
  obtain ⟨fuel, hf⟩ := hd
  rw [h1] at hf
  obtain ⟨a, h2, h3⟩ := h H en W base spare held fuel _ _ hf
  exact ⟨a, h2, (h3.2 0 v _ rfl rfl).1⟩
theorem law_calls {f : FuncId} {xs : List AV} {b : Bool} {W : World} {vs : List Value} (h : FSpec P f xs (AV.bool b)) (hd : DenV (heapR W) vs xs) :
    Calls P f vs.toArray W fun e w' => e = .returned (.bool b) ∧ Below W.heap.size W w' :=
  (h (heapR W) W vs (heapR_le W) hd).mono fun e w' ⟨v, R', h1, h2, _, _, h5⟩ => ⟨by rw [h1]; exact congrArg Ending.returned h2, h5⟩
end
end Go.AV

set_option linter.unusedVariables false
set_option linter.unusedSimpArgs false
namespace Go.AV
def AV.wt (T : World → Prop) (x : AV) : AV := ⟨fun R v => x.den R v ∧ ∀ w' : World, RLe R w' → T w', fun h ⟨a, b⟩ => ⟨x.mono h a, fun w' hw => b w' fun b o e => hw b o (h b o e)⟩⟩
section
variable {P : Program} {G : Nat → Prop} {n : Nat} {own : List Own} {o : Oper} {E : EnvF}
theorem evb_wt {p : Operand} {x : AV} {T T' : World → Prop} (i : Nat) (hi : own[i]? = some (.tab T')) (hT : ∀ w, T' w → T w) (h : EvB own E p x) : EvB own E p (AV.wt T x) := fun G w0 R0 R a w hc he =>
  ⟨h G w0 R0 R a w hc he, fun w' hw' => hT w' ((hc.owned _ (List.mem_of_getElem? hi)) w' fun b o e => hw' b o (lend_sub hc b o e))⟩
theorem core_tab {w0 w : World} {R0 R : RHeap} {T : World → Prop} (h : Core G w0 R0 own R w) (ht : ∀ w' : World, RLe R w' → T w') : Core G w0 R0 (.tab T :: own) R w where
  os := h.os
  tape := h.tape
  output := h.output
  size := h.size
  block := h.block
  rle := h.rle
  rold := h.rold
  owned o ho := by
    rcases List.mem_cons.1 ho with rfl | ho
    · exact ht
    · exact h.owned o ho
  fresh o ho b hb := by
    rcases List.mem_cons.1 ho with rfl | ho
    · cases hb
    · exact h.fresh o ho b hb
  sep := by
    rw [List.filterMap_cons]
    exact h.sep
theorem le_tab {env : List (Nat × AV)} {t : Nat} {x : AV} {T : World → Prop} (ht : getv t env = some (AV.wt T x)) : Le G n ⟨own, env⟩ ⟨.tab T :: own, (t, x) :: env⟩ := fun w0 R0 R a w ⟨h1, h2, h3⟩ => by
  have hx := h2 t _ ht
  refine ⟨R, RSub.refl _, core_tab h1 hx.2, fun k z hz => ?_, h3⟩
  simp only [getv] at hz
  by_cases hk : t = k
  · subst hk
    simp [Nat.beq_refl] at hz
    rw [← hz]
    exact hx.1
  · rw [nat_beq_ne hk, cond_false] at hz
    exact h2 k z hz
theorem fspec_wt {f : FuncId} {x y : AV} {T : World → Prop} (h : ∀ (R : RHeap) (w : World) (v : Value), RLe R w → x.den R v → T w → Calls P f #[v] w fun e w' => ∃ u, e = .returned u ∧ y.den R u ∧ Go.RowKit.Below w.heap.size w w') : FSpec P f [AV.wt T x] y := fun R w vs hr hd => by
  match vs, hd.1 with
  | [v], _ =>
    have h1 := hd.2 0 v _ rfl rfl
    refine (h R w v hr h1.1 (h1.2 w hr)).mono fun e w' ⟨u, h2, h3, h4⟩ => ⟨u, R, h2, h3, fun b o hb => ?_, fun _ _ => rfl, h4⟩
    have hb2 := hr b o hb
    rw [h4.block b (Array.getElem?_eq_some_iff.1 hb2).1]; exact hb2
theorem below_grown (w : World) (k : Nat) (os : Array Obj) : Go.RowKit.Below w.heap.size w (Go.Sort.grow (w.drewN k) os) :=
  ⟨rfl, rfl, rfl, by rw [Go.Sort.size_grow]; exact Nat.le_add_right _ _, fun b hb => Go.Sort.heap_grow_old (w.drewN k) os hb⟩
theorem tabIs_heap {P : Program} {W w' : World} {name : String} {k : IntKind} {zs : List Int} (h : Lib.TabIs P W name k zs) (hw : RLe (heapR W) w') : Lib.TabIs P w' name k zs := by
  unfold Lib.TabIs World.var? at h ⊢
  cases hg : P.globalNamed name with
  | none => rw [hg] at h; cases h
  | some g =>
    rw [hg] at h
    simp only [Option.bind_some] at h ⊢
    cases ho : W.heap[g]? with
    | none => rw [ho] at h; cases h
    | some o =>
      rw [ho] at h
      rw [hw g o ho]
      exact h
end
end Go.AV

set_option linter.unusedVariables false
set_option linter.unusedSimpArgs false
namespace Go.AV
section
variable {P : Program} {G : Nat → Prop} {n : Nat} {own : List Own}
section
variable {o : Oper} {E : EnvF}
end
section
variable {α : Type} {ok : α → Prop} {O : α → List Own} {V : α → AV} {o : Oper}
theorem opE_alloc {ops : Array Oper} {E : EnvF} {t : TypeId} {z : Value} (ho : o.op = .alloc t)
    (hz : ∀ w, (zeroValue t).run P w = .ok z w) (h1' : z.cells.toList.all Value.oneCell' = true) : OpE P G n own ops o E (fun _ : Nat => True) (fun b => own ++ [.box b t (z.cells.toList.map zeroA)]) (fun b => AV.ptr b 0) :=
  fun w0 R0 R a w h1 h3 h2 => by
    have hrun : (execOp a.eval o).run P w = .ok (.value (.pointer (some ⟨w.heap.size, 0, none⟩))) (w.alloc (.cells z.cells.toList.toArray t)) := by
      simp only [execOp, ho, Instr.alloc, newVar, newRow, hz, Array.toArray_toList, Sem.run_bind, Sem.run_pure, Result.andThen_ok, run_newObj, World.alloc_eq]
    unfold Oper.wp
    rw [hrun, Oper.upon_value]
    exact ⟨w.heap.size, _, R, trivial, rfl, core_perm (core_box h1 ⟨by simp, fun i v y hv hy => by
      rw [List.getElem?_map, hv] at hy
      simp at hy; subst hy
      exact ⟨zeroA_den R v, List.all_eq_true.1 h1' v (List.mem_of_getElem? hv)⟩⟩) (List.perm_append_comm (l₁ := [_])), RSub.refl _, rfl⟩
end
end
inductive OT where
  | nil
  | pure (i : Nat) (t : OT)
  | e1 (i : Nat) (t : OT)
  | e2 (i : Nat) (t : OT) (j : Nat) (u : OT)
def OT.deep : OT → Nat → Bool
  | .nil, 0 => true
  | .pure _ t, f + 1 => t.deep f
  | .e1 _ t, f + 1 => t.deep f
  | .e2 _ t _ u, f + 1 => t.deep f && u.deep f
  | _, _ => false
def ordT (md : Region.Mode) (ops : Array Oper) (g m : Nat) : OT → Array Bool → Bool
  | .nil, listed => Region.seqB md ops g m listed
  | .pure i r, listed => (Region.ready md ops listed).contains i && Region.free md ops listed i && Nat.blt i m && ordT md ops g m r (listed.setIfInBounds i true)
  | .e1 i r, listed => decide (Region.ready md ops listed = [i]) && Nat.blt i m && ordT md ops g m r (listed.setIfInBounds i true)
  | .e2 i r j u, listed => decide (Region.ready md ops listed = [i, j]) && Nat.blt i m && Nat.blt j m && ordT md ops g m r (listed.setIfInBounds i true) && ordT md ops g m u (listed.setIfInBounds j true)
def treeB (md : Region.Mode) (ops : Array Oper) (m : Nat) (ord : OT) : Bool :=
  decide (m < ops.size) && ord.deep m && Region.sinkB md ops m && Region.chainB md ops m && ordT md ops (ops.size - m) m ord (Array.replicate ops.size false)
section
variable {P : Program} {G : Nat → Prop} {n : Nat}
def EffS (P : Program) (G : Nat → Prop) (n : Nat) (Inv : List Own → Prop) (ops : Array Oper) (i : Nat) (env : List (Nat × AV)) (W : List Own) (K : List (Nat × AV) → List Own → Prop) : Prop :=
  ∃ o, ops[i]? = some o ∧ o.guard = none ∧ ∃ (α : Type) (ok : α → Prop) (W' : α → List Own) (V : α → AV), OpE P G n W ops o (getv · env) ok W' V ∧ (∀ a, ok a → Inv (W' a)) ∧ ∀ a, ok a → K (putv o.dst (V a) env) (W' a)
def BT (P : Program) (G : Nat → Prop) (n : Nat) (Inv : List Own → Prop) (ops : Array Oper) : OT → List (Nat × AV) → List Own → (List (Nat × AV) → List Own → Prop) → Prop
  | .nil, env, W, K => K env W
  | .pure i r, env, W, K => ∃ o, ops[i]? = some o ∧ ∃ x, (∀ W', Inv W' → OpA P G n W' ops o (getv · env) x) ∧ BT P G n Inv ops r (putv o.dst x env) W K
  | .e1 i r, env, W, K => EffS P G n Inv ops i env W fun env' W' => BT P G n Inv ops r env' W' K
  | .e2 i r j u, env, W, K => (EffS P G n Inv ops i env W fun env' W' => BT P G n Inv ops r env' W' K) ∧ EffS P G n Inv ops j env W fun env' W' => BT P G n Inv ops u env' W' K
theorem wpAnyB_ot {Inv : List Own → Prop} {md : Region.Mode} {ops : Array Oper} {m g : Nat} {K : List (Nat × AV) → List Own → Prop} (hs : Region.sinkB md ops m = true) (hc : Region.chainB md ops m = true) (hn : m < ops.size) :
    ∀ (l : OT) (f : Nat) (listed : Array Bool) (env : List (Nat × AV)) (W : List Own), l.deep f = true → HeadInv md ops m listed → Inv W →
    ordT md ops g m l listed = true → BT P G n Inv ops l env W K →
    wpAnyB P G n Inv md ops m (fun listed' E W => Region.seqB md ops g m listed' = true ∧ ∃ env', E = (getv · env') ∧ K env' W) f listed (getv · env) W
  | .nil, 0, listed, env, W, _, _, _, hB, h => ⟨hB, env, rfl, h⟩
  | .nil, _ + 1, _, _, _, hdp, _, _, _, _ => by cases hdp
  | .pure _ _, 0, _, _, _, hdp, _, _, _, _ => by cases hdp
  | .e1 _ _, 0, _, _, _, hdp, _, _, _, _ => by cases hdp
  | .e2 _ _ _ _, 0, _, _, _, hdp, _, _, _, _ => by cases hdp
  | .pure i l, f + 1, listed, env, W, hdp, inv, hW, hB, h => by
    simp only [ordT, Bool.and_eq_true] at hB
    obtain ⟨⟨⟨hr, hf⟩, hlt⟩, hB'⟩ := hB
    have hkn : i < m := Nat.blt_eq.mp hlt
    have hr' : i ∈ Region.ready md ops listed := by simpa using hr
    obtain ⟨o, ho, x, hx, hK⟩ := h
    refine wpAnyB_first ho hs hc hn hkn (fun listed' E W hL => seqB_ready hL.1) f listed _ W inv hW (Region.free_spec ho hf) hr' hx ?_
    rw [← getv_putv]
    exact wpAnyB_ot hs hc hn l f _ _ W hdp (inv.set hr' hkn) hW hB' hK
  | .e1 i l, f + 1, listed, env, W, hdp, inv, hW, hB, h => by
    simp only [ordT, Bool.and_eq_true, decide_eq_true_eq] at hB
    obtain ⟨⟨hr, hlt⟩, hB'⟩ := hB
    have hkn : i < m := Nat.blt_eq.mp hlt
    have hr' : i ∈ Region.ready md ops listed := by rw [hr]; simp
    obtain ⟨o, ho, hg, α, ok, W', V, h1, h2, h3⟩ := h
    refine ⟨fun h0 => (by rw [h0] at hr'; cases hr'), fun j hj => ?_⟩
    rw [hr] at hj
    have : j = i := by simpa using hj
    subst this
    refine ⟨hkn, ?_⟩
    unfold qB
    simp only [ho]
    refine .inr ⟨hg, α, ok, W', V, h1, h2, fun a ha => ?_⟩
    rw [← getv_putv]
    exact wpAnyB_ot hs hc hn l f _ _ (W' a) hdp (inv.set hr' hkn) (h2 a ha) hB' (h3 a ha)
  | .e2 i l k u, f + 1, listed, env, W, hdp, inv, hW, hB, h => by
    simp only [ordT, Bool.and_eq_true, decide_eq_true_eq] at hB
    obtain ⟨⟨⟨⟨hr, hlt⟩, hlt2⟩, hB'⟩, hB2⟩ := hB
    simp only [OT.deep, Bool.and_eq_true] at hdp
    have hkn : i < m := Nat.blt_eq.mp hlt
    have hkn2 : k < m := Nat.blt_eq.mp hlt2
    have hr' : i ∈ Region.ready md ops listed := by rw [hr]; simp
    have hr2 : k ∈ Region.ready md ops listed := by rw [hr]; simp
    obtain ⟨⟨o, ho, hg, α, ok, W', V, h1, h2, h3⟩, ⟨o', ho', hg', α', ok', W'', V', h1', h2', h3'⟩⟩ := h
    refine ⟨fun h0 => (by rw [h0] at hr'; cases hr'), fun j hj => ?_⟩
    rw [hr] at hj
    simp only [List.mem_cons, List.not_mem_nil, or_false] at hj
    rcases hj with hj | hj
    · subst hj
      refine ⟨hkn, ?_⟩
      unfold qB
      simp only [ho]
      refine .inr ⟨hg, α, ok, W', V, h1, h2, fun a ha => ?_⟩
      rw [← getv_putv]
      exact wpAnyB_ot hs hc hn l f _ _ (W' a) hdp.1 (inv.set hr' hkn) (h2 a ha) hB' (h3 a ha)
    · subst hj
      refine ⟨hkn2, ?_⟩
      unfold qB
      simp only [ho']
      refine .inr ⟨hg', α', ok', W'', V', h1', h2', fun a ha => ?_⟩
      rw [← getv_putv]
      exact wpAnyB_ot hs hc hn u f _ _ (W'' a) hdp.2 (inv.set hr2 hkn2) (h2' a ha) hB2 (h3' a ha)
theorem awp_region_tree {id : Nat} {l : List Oper} {Q : Exit → AState → Prop} {env : List (Nat × AV)} {own : List Own} (base : List Own) (m : Nat) (ord : OT) (hm : P.follows .mixedOrders = true) (hB : treeB .any l.toArray m ord = true) (hd : dstOk n l = true) (hb : InvX base own)
    (h : BT P G n (InvX base) l.toArray ord env own (fun env' W => ASeq P G n l.toArray (l.drop m) ⟨W, env'⟩ (Q .normal))) : AWP P G n (.region id l.toArray true) Q ⟨own, env⟩ := fun w0 R0 R a w ⟨h1, h2, h3, h4⟩ => by
  simp only [treeB, Bool.and_eq_true, decide_eq_true_eq] at hB
  obtain ⟨⟨⟨⟨hn, hdp⟩, hs⟩, hc⟩, hlex⟩ := hB
  have hn' : m < l.length := by simpa using hn
  have hdl : (l.drop m).length = l.toArray.size - m := by simp
  have inv0 : HeadInv .any l.toArray m (Array.replicate l.toArray.size false) :=
    ⟨by simp, fun j oj _ hl => (by rw [getD_replicate_false] at hl; cases hl), fun t _ ht => getD_in (by simpa using ht) (getD_replicate_false _ _)⟩
  have H := wpAnyB_ot (g := l.toArray.size - m) hs hc hn ord m _ env own hdp inv0 hb hlex h
  refine wp_region_any hm ?_
  have := wpAny_of_B (w0 := w0) (R0 := R0) (R00 := R) (g := l.toArray.size - m) (Q' := fun e a' w' => ∃ s' R', Q e s' ∧ RSub R R' ∧ St G n w0 R0 s' R' a' w') (fun i o ho d e => dstOk_spec hd i o (by simpa using ho) d e) (fun listed E W R' a' w' g1 g2 g3 g4 g5 hL => by
    obtain ⟨hL1, env', rfl, hL2⟩ := hL
    have := wpAny_of_seq (P := P) (md := .any) (Q' := fun e a' w' => ∃ s' R', Q e s' ∧ RSub R R' ∧ St G n w0 R0 s' R' a' w') (l.drop m) m listed a' w' (fun j => by simp [List.getElem?_drop]) (by rw [hdl]; exact hL1)
      (wpList_of_seq (R00 := R) (K := Q .normal) (fun s' R' a w q r1 r2 => ⟨s', R', q, r1, r2⟩) _ (⟨W, env'⟩ : AState) R' a' w' g1 ⟨g2, g3, g4, g5⟩ hL2)
    rwa [hdl] at this) _ _ _ own R a _ (RSub.refl _) (core_drew h1) h2 h3 h4 H
  rw [show m + (l.toArray.size - m) = l.toArray.size by omega] at this
  exact this
section
variable {ops : Array Oper} {i j : Nat} {o : Oper} {r u : OT} {env : List (Nat × AV)} {W : List Own} {base : List Own} {K : List (Nat × AV) → List Own → Prop} {d : Nat} {x : AV}
theorem bt_nil {Inv : List Own → Prop} (h : K env W) : BT P G n Inv ops .nil env W K := h
theorem bt_plain (ho : ops[i]? = some o) (hg : o.guard = none) (hd : o.dst = some d) (h : ∀ ext, OpW P G n (base ++ ext) o (getv · env) x) (k : BT P G n (InvX base) ops r ((d, x) :: env) W K) : BT P G n (InvX base) ops (.pure i r) env W K :=
  ⟨o, ho, x, fun W' ⟨ext, e⟩ => by subst e; exact opA_plain hg (h ext), by rw [hd]; exact k⟩
theorem bt_e1 {Inv : List Own → Prop} (h : EffS P G n Inv ops i env W fun env' W' => BT P G n Inv ops r env' W' K) : BT P G n Inv ops (.e1 i r) env W K := h
theorem eff_s {Inv : List Own → Prop} {α : Type} {ok : α → Prop} {W' : α → List Own} {V : α → AV} (ho : ops[i]? = some o) (hg : o.guard = none) (hd : o.dst = some d) (h : OpE P G n W ops o (getv · env) ok W' V) (hi : ∀ a, ok a → Inv (W' a)) (k : ∀ a, ok a → K ((d, V a) :: env) (W' a)) : EffS P G n Inv ops i env W K :=
  ⟨o, ho, hg, α, ok, W', V, h, hi, fun a ha => by rw [hd]; exact k a ha⟩
end
end
section
variable {T X : Type} {cs : T → List AV} {ocs : T → X → List AV} {ow : T → X → List Own}
end
section
variable {T : Type}
variable {mk : T → Int → T} {mn : T → Int → Int}
end
end Go.AV

set_option linter.unusedVariables false
set_option linter.unusedSimpArgs false
namespace Go.AV
section
variable {P : Program} {G : Nat → Prop} {n : Nat} {own : List Own} {o : Oper}
theorem gin_nil {rest : List Own} : ∀ b, blksOf [] b → b ∈ rest.filterMap Own.blk := fun _ ⟨_, h, _⟩ => by simp at h
theorem core_sealD {sel rest : List Own} {w0 : World} {R0 R : RHeap} {w : World} (h : Core G w0 R0 (sel ++ rest) R w) (hG : ∀ b, G b → b ∈ rest.filterMap Own.blk) : Core G w0 R0 rest (lend sel w R) w := by
  have hl := core_left h
  refine ⟨h.os, h.tape, h.output, h.size, h.block, lend_le hl, fun b hb => ?_, fun q hq => ?_, fun q hq => h.fresh q (List.mem_append_right _ hq), (core_right h).sep⟩
  · unfold lend
    cases hob : ownB sel b with
    | true =>
      obtain ⟨x, hx, hxb⟩ := ownB_true hob
      rcases h.fresh x (List.mem_append_left _ hx) b hxb with h1 | h1
      · omega
      · obtain ⟨y, hy, hyb⟩ := List.mem_filterMap.1 (hG b h1)
        exact absurd hyb (sep_apart h.sep hx hy hxb)
    | false => exact h.rold b hb
  · have hk := h.owned q (List.mem_append_right _ hq)
    refine Own.ok_keep hk (lend_sub hl) fun b hb => ⟨rfl, ?_⟩
    unfold lend
    cases hob : ownB sel b with
    | true =>
      obtain ⟨x, hx, hxb⟩ := ownB_true hob
      exact absurd hb (sep_apart h.sep hx hq hxb)
    | false => exact (Own.ok_blk hk hb).1
theorem le_sealD {env : List (Nat × AV)} {sel rest : List Own} {x y : AV} (is : List Nat) (t : Nat) (hp : pick own is = (sel, rest)) (ht : getv t env = some x) (hl : LendTo sel x y) (hG : ∀ b, G b → b ∈ rest.filterMap Own.blk) : Le G n ⟨own, env⟩ ⟨rest, (t, y) :: env⟩ := fun w0 R0 R a w ⟨h1, h2, h3⟩ => by
  have hc := core_pick h1 hp
  refine ⟨lend sel w R, lend_sub (core_left hc), core_sealD hc hG, fun k z hz => ?_, h3⟩
  simp only [getv] at hz
  by_cases hk : t = k
  · subst hk
    simp [Nat.beq_refl] at hz
    rw [← hz]
    exact hl G w0 R0 R w _ (core_left hc) (h2 t x ht)
  · rw [nat_beq_ne hk, cond_false] at hz
    exact z.mono (lend_sub (core_left hc)) (h2 k z hz)
theorem sq_gcase {ops : Array Oper} {rest : List Oper} {env : List (Nat × AV)} {K : AState → Prop} {d : Nat} {c : Bool} (hd : o.dst = some d) (hn : Nat.blt d n = true) (hg : GuardIs ops o (getv · env) c)
    (ht : c = true → ASeq P G n ops ({ o with guard := none } :: rest) ⟨own, env⟩ K) (hf : c = false → ASeq P G n ops rest ⟨own, (d, AV.is undef) :: env⟩ K) : ASeq P G n ops (o :: rest) ⟨own, env⟩ K := fun w0 R0 R a w hs => by
  have hgc := hg R a fun t _ y hy => hs.2.1 t y hy
  cases c with
  | true =>
    refine ⟨fun _ => ?_, fun hw => by rw [hgc] at hw; exact Bool.noConfusion hw⟩
    exact (ht rfl w0 R0 R a w hs).1 rfl
  | false =>
    refine ⟨fun hw => by rw [hgc] at hw; exact Bool.noConfusion hw, fun _ => ⟨_, R, hf rfl, RSub.refl _, ?_⟩⟩
    obtain ⟨h1, h2, h3, h4⟩ := hs
    refine ⟨h1, ?_, by rw [size_put]; exact h3, by rw [defers_put]; exact h4⟩
    have := envOk_put (d := o.dst) (x := AV.is undef) (v := undef) h2 (RSub.refl R) (fun q e => by rw [h3]; rw [hd] at e; injection e with e; subst e; exact Nat.blt_eq.mp hn) rfl
    rw [hd] at this ⊢
    exact this
theorem evif_no {E : EnvF} {p : Operand} {b : Bool} {x : AV} (h : b = false) : EvIf E p b x := fun hb => by rw [h] at hb; cases hb
def bandI (x y : Int) : Int := IntKind.u64.wrap (((BitVec.ofInt IntKind.u64.bits x &&& BitVec.ofInt IntKind.u64.bits y).toNat : Nat) : Int)
theorem w_band {E : EnvF} {t ty : TypeId} {p q : Operand} {x y : Int} (ho : o.op = .binOp .and t p q ty) (hp : Ev E p (AV.ik .u64 x)) (hq : Ev E q (AV.ik .u64 y)) : OpW P G n own o E (AV.ik .u64 (bandI x y)) := opW_val fun R a w _ he => by
  have h1 : a.eval p = .int .u64 x := ev_use hp (by simp [ho, Op.operands]) he
  have h2 : a.eval q = .int .u64 y := ev_use hq (by simp [ho, Op.operands]) he
  exact ⟨.int .u64 (bandI x y), by simp only [execOp, ho, h1, h2]; simp [go_sem]; rfl, rfl⟩
end
end Go.AV

set_option linter.unusedVariables false
set_option linter.unusedSimpArgs false
namespace Go.AV
section
variable {P : Program} {G : Nat → Prop} {n : Nat} {own : List Own} {o : Oper}
section
variable {T X : Type} {ocs : T → X → List AV} {cs : T → List AV} {ow : T → X → List Own}
end
end
end Go.AV

set_option linter.unusedVariables false
set_option linter.unusedSimpArgs false
namespace Go.AV
section
variable {P : Program} {G : Nat → Prop} {n : Nat} {own : List Own} {o : Oper} {E : EnvF}
@[reducible] def byteC (b : UInt8) : List AV := [AV.ik .u8 b.toNat]
theorem flat_byteC : ∀ (bs : List UInt8), (bs.map byteC).flatten = bs.map fun b => AV.ik .u8 b.toNat
  | [] => rfl
  | b :: bs => by rw [List.map_cons, List.flatten_cons, flat_byteC bs]; rfl
theorem conv_bytes {w : World} {oa : Option Addr} {c : Nat} {bs : List UInt8} {src dst e : TypeId} (hs : P.underlying src = some (.slice e)) (he : P.underlying e = some (.int .u8)) (hdst : P.underlying dst = some .string)
    (h : bs ≠ [] → ∃ a, oa = some a ∧ ∀ (j : Nat) (b : UInt8), bs[j]? = some b → w.cell? (a.add j) = some (.int .u8 b.toNat)) :
    (convert src dst (.slice oa bs.length c)).run P w = .ok (.string ⟨bs.toArray⟩) w := by
  cases oa with
  | none =>
    have hb : bs = [] := by
      cases bs with
      | nil => rfl
      | cons b t => obtain ⟨a, ha, _⟩ := h (by simp); cases ha
    subst hb
    exact Go.run_convert_bytes_nil (w := w) (P := P) src e hs he _ _ dst hdst
  | some a =>
    have hl : (loadCells a bs.length).run P w = .ok ((bs.map fun b => (b.toNat : Int)).map (Value.int .u8)).toArray w := by
      have := run_loadCells_list (P := P) (w := w) a ((bs.map fun b => (b.toNat : Int)).map (Value.int .u8)) (fun j v hj => by
        rw [List.getElem?_map, List.getElem?_map] at hj
        cases hb : bs[j]? with
        | none => rw [hb] at hj; cases hj
        | some b =>
          rw [hb] at hj
          injection hj with hj; subst hj
          obtain ⟨a', ha, hc⟩ := h (by intro hn; rw [hn] at hb; simp at hb)
          injection ha with ha; subst ha
          exact hc j b hb)
      simpa using this
    rw [Go.run_convert_bytes_string w src dst e _ _ c hs he hdst, Go.run_bytesToString w a bs.length c _ hl, Go.foldl_push_bytes]
    refine congrArg (fun b => Result.ok (Value.string b) w) ?_
    refine ByteArray.ext ?_
    apply Array.toList_inj.1
    simp [ByteArray.empty, ByteArray.emptyWithCapacity]
    show [] ++ bs.map (fun b => UInt8.ofNat (Int.toNat (b.toNat : Int))) = bs
    rw [List.nil_append]
    conv => rhs; rw [← List.map_id bs]
    refine List.map_congr_left fun b _ => ?_
    rw [Int.toNat_natCast]
    simp
theorem conv_list {R : RHeap} {w : World} {v : Value} {bs : List UInt8} {src dst e : TypeId} (hr : RLe R w) (hd : (AV.list 1 (bs.map byteC)).den R v) (hs : P.underlying src = some (.slice e)) (he : P.underlying e = some (.int .u8)) (hdst : P.underlying dst = some .string) :
    (convert src dst v).run P w = .ok (.string ⟨bs.toArray⟩) w := by
  obtain ⟨oa, c, rfl, h1, h2, _, h4⟩ := hd
  rw [List.length_map]
  refine conv_bytes hs he hdst fun hn => ?_
  obtain ⟨a, ha, hc⟩ := h4 (by intro hm; exact hn (List.map_eq_nil_iff.1 hm))
  refine ⟨a, ha, fun j b hb => ?_⟩
  rw [flat_byteC] at hc
  obtain ⟨u, hu, hx, _⟩ := hc j (AV.ik .u8 b.toNat) (by rw [List.getElem?_map, hb]; rfl)
  rw [rcell_cell hr hu]
  exact congrArg some hx
theorem w_convB {src dst e : TypeId} {p : Operand} {bs : List UInt8} (ho : o.op = .convert src dst p) (hs : P.underlying src = some (.slice e)) (he : P.underlying e = some (.int .u8)) (hd : P.underlying dst = some .string) (hp : Ev E p (AV.list 1 (bs.map byteC))) : OpW P G n own o E (AV.str bs) := opW_val fun R a w hr hv => by
  have h1 := ev_use hp (by simp [ho, Op.operands]) hv
  exact ⟨.string ⟨bs.toArray⟩, by simp [execOp, ho, conv_list hr h1 hs he hd], rfl⟩
end
end Go.AV

set_option linter.unusedVariables false
set_option linter.unusedSimpArgs false
set_option maxRecDepth 100000
namespace Go.Proofs.YtmlmmgeadombbaaGreatDoor
open Go Go.AV Go.M
attribute [local irreducible] OpW OpA OpS AWP FSpec ESpec RetOk RvDen Le Ev GuardIs
theorem within_spec (a b c : Int) : FSpec Tryz.prog 62 [AV.int a, AV.int b, AV.int c] (AV.bool (within a b c)) := by
  refine spec_of_awp Tryz.func62 rfl Tryz.ntmps62 rfl ?_
  refine awp_seq ?_
  refine awp_region ?_
  refine sq_plain rfl rfl rfl (w_assign rfl ev_cb) ?_
  refine sq_nil ?_
  refine awp_seq ?_
  refine awp_region ?_
  refine sq_plain rfl rfl rfl (w_move rfl (ev_tmp rfl)) ?_
  refine sq_plain rfl rfl rfl (w_move rfl (ev_tmp rfl)) ?_
  refine sq_plain rfl rfl rfl (w_geq rfl (ev_tmp rfl) (ev_tmp rfl)) ?_
  refine sq_plain rfl rfl rfl (w_move rfl (ev_tmp rfl)) ?_
  refine sq_grd rfl rfl (guard_t rfl rfl rfl) (fun hc => w_move rfl (ev_tmp rfl)) ?_
  refine sq_grd rfl rfl (guard_t rfl rfl rfl) (fun hc => w_move rfl (ev_tmp rfl)) ?_
  refine sq_grd rfl rfl (guard_t rfl rfl rfl) (fun hc => w_leq rfl (ev_whn rfl hc) (ev_whn rfl hc)) ?_
  refine sq_plain rfl rfl rfl (w_and rfl (ev_tmp rfl) (evif_w rfl)) ?_
  refine sq_plain rfl rfl rfl (w_assign rfl (ev_tmp rfl)) ?_
  refine sq_nil ?_
  refine awp_ret ?_
  exact retR rfl (rv_tmp' rfl (by first | rfl | (refine congrArg AV.bool ?_; simp_all; done)))
theorem l1In_spec (a b c : Int) : FSpec Tryz.prog 109 [AV.int a, AV.int b, AV.int c] (AV.bool (within a b c)) := by
  refine spec_of_awp Tryz.func109 rfl Tryz.ntmps109 rfl ?_
  refine awp_seq ?_
  refine awp_region ?_
  refine sq_plain rfl rfl rfl (w_assign rfl ev_cb) ?_
  refine sq_nil ?_
  refine awp_seq ?_
  refine awp_region ?_
  refine sq_plain rfl rfl rfl (w_move rfl (ev_tmp rfl)) ?_
  refine sq_plain rfl rfl rfl (w_move rfl (ev_tmp rfl)) ?_
  refine sq_plain rfl rfl rfl (w_geq rfl (ev_tmp rfl) (ev_tmp rfl)) ?_
  refine sq_plain rfl rfl rfl (w_move rfl (ev_tmp rfl)) ?_
  refine sq_grd rfl rfl (guard_t rfl rfl rfl) (fun hc => w_move rfl (ev_tmp rfl)) ?_
  refine sq_grd rfl rfl (guard_t rfl rfl rfl) (fun hc => w_move rfl (ev_tmp rfl)) ?_
  refine sq_grd rfl rfl (guard_t rfl rfl rfl) (fun hc => w_leq rfl (ev_whn rfl hc) (ev_whn rfl hc)) ?_
  refine sq_plain rfl rfl rfl (w_and rfl (ev_tmp rfl) (evif_w rfl)) ?_
  refine sq_plain rfl rfl rfl (w_assign rfl (ev_tmp rfl)) ?_
  refine sq_nil ?_
  refine awp_ret ?_
  exact retR rfl (rv_tmp' rfl (by first | rfl | (refine congrArg AV.bool ?_; simp_all; done)))
theorem lowDig_spec (c : UInt8) : FSpec Tryz.prog 173 [AV.byte c] (AV.bool (lowDig c)) := by
  refine spec_of_awp Tryz.func173 rfl Tryz.ntmps173 rfl ?_
  refine awp_seq ?_
  refine awp_region ?_
  refine sq_plain rfl rfl rfl (w_assign rfl ev_cb) ?_
  refine sq_nil ?_
  refine awp_seq ?_
  refine awp_region ?_
  refine sq_plain rfl rfl rfl (w_move rfl (ev_tmp rfl)) ?_
  refine sq_plain rfl rfl rfl (w_geq rfl (ev_tmp rfl) ev_ci) ?_
  refine sq_plain rfl rfl rfl (w_move rfl (ev_tmp rfl)) ?_
  refine sq_grd rfl rfl (guard_t rfl rfl rfl) (fun hc => w_move rfl (ev_tmp rfl)) ?_
  refine sq_grd rfl rfl (guard_t rfl rfl rfl) (fun hc => w_leq rfl (ev_whn rfl hc) ev_ci) ?_
  refine sq_plain rfl rfl rfl (w_and rfl (ev_tmp rfl) (evif_w rfl)) ?_
  refine sq_plain rfl rfl rfl (w_move rfl (ev_tmp rfl)) ?_
  refine sq_grd rfl rfl (guard_f rfl rfl rfl) (fun hc => w_move rfl (ev_tmp rfl)) ?_
  refine sq_grd rfl rfl (guard_f rfl rfl rfl) (fun hc => w_geq rfl (ev_whn rfl hc) ev_ci) ?_
  refine sq_grd rfl rfl (guard_f rfl rfl rfl) (fun hc => w_move rfl (ev_whn rfl hc)) ?_
  refine sq_grd rfl rfl (guard_wt rfl rfl rfl) (fun hc => w_move rfl (ev_tmp rfl)) ?_
  refine sq_grd rfl rfl (guard_wt rfl rfl rfl) (fun hc => w_leq rfl (ev_whn rfl hc) ev_ci) ?_
  refine sq_grd rfl rfl (guard_f rfl rfl rfl) (fun hc => w_and rfl (ev_whn rfl hc) (evif_w2 rfl hc)) ?_
  refine sq_plain rfl rfl rfl (w_or rfl (ev_tmp rfl) (evif_w rfl)) ?_
  refine sq_plain rfl rfl rfl (w_assign rfl (ev_tmp rfl)) ?_
  refine sq_nil ?_
  refine awp_ret ?_
  exact retR rfl (rv_tmp' rfl (by first | rfl | (refine congrArg AV.bool ?_; simp_all; done)))
theorem idxB_ext (s : Str) (c : UInt8) : ESpec Tryz.prog 211 [AV.str s, AV.byte c] (AV.int (idxB s c)) := espec_mk fun R w vs h => by
  obtain ⟨v, u, rfl, h1, h2⟩ := denV_two h
  have e1 : v = .string ⟨s.toArray⟩ := h1
  have e2 : u = .int .u8 c.toNat := h2
  subst e1; subst e2
  refine ⟨.int .i64 (idxB s c), ?_, rfl⟩
  rw [run_callFunc_indexByte Tryz.func211 (by kernel_rfl) (by kernel_rfl) (by kernel_rfl) (by kernel_rfl), run_indexByte_string]
  simp [idxB]
theorem idxB1_spec (s : Str) (c : UInt8) : FSpec Tryz.prog 194 [AV.str s, AV.byte c] (AV.int (idxB s c)) := by
  refine spec_of_awp Tryz.func194 rfl Tryz.ntmps194 rfl ?_
  refine awp_seq ?_
  refine awp_region ?_
  refine sq_plain rfl rfl rfl (w_assign rfl ev_ci) ?_
  refine sq_nil ?_
  refine awp_seq ?_
  refine awp_region ?_
  refine sq_plain rfl rfl rfl (w_move rfl (ev_tmp rfl)) ?_
  refine sq_plain rfl rfl rfl (w_move rfl (ev_tmp rfl)) ?_
  refine sq_plain rfl rfl rfl (w_ext rfl rfl (idxB_ext _ _) (evl_cons (ev_tmp rfl) (evl_cons (ev_tmp rfl) evl_nil))) ?_
  refine sq_plain rfl rfl rfl (w_assign rfl (ev_tmp rfl)) ?_
  refine sq_nil ?_
  refine awp_ret ?_
  exact retR rfl (rv_tmp' rfl (by first | rfl | (refine congrArg AV.bool ?_; simp_all; done)))
theorem idxB_spec (s : Str) (c : UInt8) : FSpec Tryz.prog 174 [AV.str s, AV.byte c] (AV.int (idxB s c)) := by
  refine spec_of_awp Tryz.func174 rfl Tryz.ntmps174 rfl ?_
  refine awp_seq ?_
  refine awp_region ?_
  refine sq_plain rfl rfl rfl (w_assign rfl ev_ci) ?_
  refine sq_nil ?_
  refine awp_seq ?_
  refine awp_region ?_
  refine sq_plain rfl rfl rfl (w_move rfl (ev_tmp rfl)) ?_
  refine sq_plain rfl rfl rfl (w_move rfl (ev_tmp rfl)) ?_
  refine sq_plain rfl rfl rfl (w_call rfl Tryz.call194 rfl (idxB1_spec _ _) (evl_cons (ev_tmp rfl) (evl_cons (ev_tmp rfl) evl_nil))) ?_
  refine sq_plain rfl rfl rfl (w_assign rfl (ev_tmp rfl)) ?_
  refine sq_nil ?_
  refine awp_ret ?_
  exact retR rfl (rv_tmp' rfl (by first | rfl | (refine congrArg AV.bool ?_; simp_all; done)))
theorem hasB_spec (s o : Str) (hs : s.length ≤ 4611686018427387904) : FSpec Tryz.prog 153 [AV.str s, AV.str o] (AV.bool (hasB s o)) := by
  refine spec_of_awp Tryz.func153 rfl Tryz.ntmps153 rfl ?_
  refine awp_seq ?_
  refine awp_region ?_
  refine sq_plain rfl rfl rfl (w_assign rfl ev_cb) ?_
  refine sq_nil ?_
  refine awp_seq ?_
  refine awp_seq ?_
  refine awp_region ?_
  refine sq_plain rfl rfl rfl (w_move rfl (ev_tmp rfl)) ?_
  refine sq_plain rfl rfl rfl (w_slen rfl Tryz.underlying9 (ev_tmp rfl)) ?_
  refine sq_plain rfl rfl rfl (w_move rfl ev_ci) ?_
  refine sq_nil ?_
  refine awp_block ?_
  refine awp_loop_i [(0, _), (1, _), (7, _)] _ (fun (i : Nat) => i ≤ s.length ∧ hasB s o = hasB (s.drop i) o) (fun (i : Nat) => []) (fun (i : Nat) => [(8, AV.int i)]) (fun (i : Nat) => s.length - i) (0) ?_ (le_env ⟨rfl, rfl, rfl, rfl, trivial⟩) ?_
  · exact ⟨Nat.zero_le _, rfl⟩
  intro i hinv
  refine awp_seq ?_
  refine awp_region ?_
  refine sq_plain rfl rfl rfl (w_lss rfl (ev_tmp rfl) (ev_tmp rfl)) ?_
  refine sq_nil ?_
  refine awp_seq ?_
  refine awp_cond (ev_tmp rfl) ?_ ?_
  · intro h9
    have k9 := of_decide_eq_true h9; try simp only [List.length_map] at k9
    have hlt : i < s.length := by have := of_decide_eq_true h9; omega
    obtain ⟨c, hc⟩ := get_some hlt
    refine awp_skip ?_
    refine awp_seq ?_
    refine awp_block ?_
    refine awp_seq ?_
    refine awp_region ?_
    refine sq_plain rfl rfl rfl (w_move rfl (ev_tmp rfl)) ?_
    refine sq_plain rfl rfl rfl (w_assign rfl (ev_tmp rfl)) ?_
    refine sq_nil ?_
    refine awp_seq ?_
    refine awp_region ?_
    refine sq_plain rfl rfl rfl (w_move rfl (ev_tmp rfl)) ?_
    refine sq_plain rfl rfl rfl (w_move rfl (ev_tmp rfl)) ?_
    refine sq_plain rfl rfl rfl (w_sidx rfl Tryz.underlying9 (ev_tmp rfl) (ev_tmp rfl) (by first | omega | ((try simp only [List.length_map, List.length_take, List.length_cons, List.length_nil, chunks_len, szR] at *); omega) | (have hc2 := hc; simp only [Bool.and_eq_true, Bool.or_eq_true, Bool.or_eq_false_iff, Bool.and_eq_false_iff, Bool.not_eq_true', Bool.not_eq_false', decide_eq_true_eq, decide_eq_false_iff_not, beq_iff_eq, bne_iff_ne, List.length_map, List.length_take] at hc2; omega)) (by assumption)) ?_
    refine sq_plain rfl rfl rfl (w_call rfl Tryz.call173 rfl (lowDig_spec _) (evl_cons (ev_tmp rfl) evl_nil)) ?_
    refine sq_plain rfl rfl rfl (w_not rfl (ev_tmp rfl)) ?_
    refine sq_plain rfl rfl rfl (w_move rfl (ev_tmp rfl)) ?_
    refine sq_grd rfl rfl (guard_t rfl rfl rfl) (fun hc => w_move rfl (ev_tmp rfl)) ?_
    refine sq_grd rfl rfl (guard_t rfl rfl rfl) (fun hc => w_move rfl (ev_tmp rfl)) ?_
    refine sq_grd rfl rfl (guard_t rfl rfl rfl) (fun hc => w_move rfl (ev_tmp rfl)) ?_
    refine sq_grd rfl rfl (guard_t rfl rfl rfl) (fun hc => w_sidx rfl Tryz.underlying9 (ev_whn rfl hc) (ev_whn rfl hc) (by first | omega | ((try simp only [List.length_map, List.length_take, List.length_cons, List.length_nil, chunks_len, szR] at *); omega) | (have hc2 := hc; simp only [Bool.and_eq_true, Bool.or_eq_true, Bool.or_eq_false_iff, Bool.and_eq_false_iff, Bool.not_eq_true', Bool.not_eq_false', decide_eq_true_eq, decide_eq_false_iff_not, beq_iff_eq, bne_iff_ne, List.length_map, List.length_take] at hc2; omega)) (by assumption)) ?_
    refine sq_grd rfl rfl (guard_t rfl rfl rfl) (fun hc => w_call rfl Tryz.call174 rfl (idxB_spec _ _) (evl_cons (ev_whn rfl hc) (evl_cons (ev_whn rfl hc) evl_nil))) ?_
    refine sq_grd rfl rfl (guard_t rfl rfl rfl) (fun hc => w_lss rfl (ev_whn rfl hc) ev_ci) ?_
    refine sq_plain rfl rfl rfl (w_and rfl (ev_tmp rfl) (evif_w rfl)) ?_
    refine sq_nil ?_
    refine awp_cond (ev_tmp rfl) ?_ ?_
    · intro h23
      have hfin : hasB s o = false := by rw [hinv.2, drop_some hc, hasB_cons, h23]; rfl
      refine awp_seq ?_
      refine awp_region ?_
      refine sq_plain rfl rfl rfl (w_assign rfl ev_cb) ?_
      refine sq_nil ?_
      refine awp_ret ?_
      exact retR rfl (rv_tmp' rfl (by first | exact congrArg AV.bool hfin.symm | exact congrArg AV.bool (by rw [hinv.2, List.drop_eq_nil_of_le hge]; rfl)))
    · intro h23
      refine awp_skip ?_
      refine awp_region ?_
      refine sq_plain rfl rfl rfl (w_addi rfl (ev_tmp rfl) ev_ci (by first | omega | ((try simp only [List.length_map, List.length_take, List.length_cons, List.length_nil, chunks_len, szR] at *); omega) | (have hc2 := hc; simp only [Bool.and_eq_true, Bool.or_eq_true, Bool.or_eq_false_iff, Bool.and_eq_false_iff, Bool.not_eq_true', Bool.not_eq_false', decide_eq_true_eq, decide_eq_false_iff_not, beq_iff_eq, bne_iff_ne, List.length_map, List.length_take] at hc2; omega))) ?_
      refine sq_plain rfl rfl rfl (w_move rfl (ev_tmp rfl)) ?_
      refine sq_nil ?_
      refine round_end i (i + 1) ?_ ?_ (le_env ⟨rfl, rfl, rfl, rfl, trivial⟩)
      · exact ⟨by omega, by rw [hinv.2, drop_some hc, hasB_cons, h23]; rfl⟩
      · omega
  · intro h9
    have k9 := of_decide_eq_false h9; try simp only [List.length_map] at k9
    have hge : s.length ≤ i := by have := of_decide_eq_false h9; omega
    refine awp_exit ?_
    refine awp_seq ?_
    refine awp_region ?_
    refine sq_plain rfl rfl rfl (w_assign rfl ev_cb) ?_
    refine sq_nil ?_
    refine awp_ret ?_
    exact retR rfl (rv_tmp' rfl (by first | exact congrArg AV.bool hfin.symm | exact congrArg AV.bool (by rw [hinv.2, List.drop_eq_nil_of_le hge]; rfl)))
theorem l3Bytes_spec (s o : Str) (hs : s.length ≤ 4611686018427387904) (ho : o.length ≤ 4611686018427387904) : FSpec Tryz.prog 163 [AV.str s, AV.str o] (AV.bool (l3Bytes s o)) := by
  refine spec_of_awp Tryz.func163 rfl Tryz.ntmps163 rfl ?_
  refine awp_seq ?_
  refine awp_region ?_
  refine sq_plain rfl rfl rfl (w_assign rfl ev_cb) ?_
  refine sq_nil ?_
  refine awp_seq ?_
  refine awp_seq ?_
  refine awp_region ?_
  refine sq_plain rfl rfl rfl (w_assign rfl ev_ci) ?_
  refine sq_nil ?_
  refine awp_block ?_
  refine awp_loop_i [(0, _), (1, _)] _ (fun (i : Nat) => i ≤ s.length ∧ l3Bytes s o = l3Bytes (s.drop i) o) (fun (i : Nat) => []) (fun (i : Nat) => [(5, AV.int i)]) (fun (i : Nat) => s.length - i) (0) ?_ (le_env ⟨rfl, rfl, rfl, trivial⟩) ?_
  · exact ⟨Nat.zero_le _, rfl⟩
  intro i hinv
  have hinv0 := hinv; clear hinv
  refine awp_seq ?_
  refine awp_seq ?_
  refine awp_region ?_
  refine sq_plain rfl rfl rfl (w_move rfl (ev_tmp rfl)) ?_
  refine sq_plain rfl rfl rfl (w_move rfl (ev_tmp rfl)) ?_
  refine sq_plain rfl rfl rfl (w_slen rfl Tryz.underlying9 (ev_tmp rfl)) ?_
  refine sq_plain rfl rfl rfl (w_lss rfl (ev_tmp rfl) (ev_tmp rfl)) ?_
  refine sq_nil ?_
  refine awp_cond (ev_tmp rfl) ?_ ?_
  · intro h11
    have k11 := of_decide_eq_true h11; try simp only [List.length_map] at k11
    have hlt : i < s.length := by have := of_decide_eq_true h11; omega
    obtain ⟨c, hc⟩ := get_some hlt
    refine awp_skip ?_
    refine awp_seq ?_
    refine awp_block ?_
    refine awp_seq ?_
    refine awp_region ?_
    refine sq_plain rfl rfl rfl (w_move rfl (ev_tmp rfl)) ?_
    refine sq_plain rfl rfl rfl (w_move rfl (ev_tmp rfl)) ?_
    refine sq_plain rfl rfl rfl (w_sidx rfl Tryz.underlying9 (ev_tmp rfl) (ev_tmp rfl) (by first | omega | ((try simp only [List.length_map, List.length_take, List.length_cons, List.length_nil, chunks_len, szR] at *); omega) | (have hc2 := hc; simp only [Bool.and_eq_true, Bool.or_eq_true, Bool.or_eq_false_iff, Bool.and_eq_false_iff, Bool.not_eq_true', Bool.not_eq_false', decide_eq_true_eq, decide_eq_false_iff_not, beq_iff_eq, bne_iff_ne, List.length_map, List.length_take] at hc2; omega)) (by assumption)) ?_
    refine sq_plain rfl rfl rfl (w_geq rfl (ev_tmp rfl) ev_ci) ?_
    refine sq_plain rfl rfl rfl (w_move rfl (ev_tmp rfl)) ?_
    refine sq_grd rfl rfl (guard_t rfl rfl rfl) (fun hc => w_move rfl (ev_tmp rfl)) ?_
    refine sq_grd rfl rfl (guard_t rfl rfl rfl) (fun hc => w_move rfl (ev_tmp rfl)) ?_
    refine sq_grd rfl rfl (guard_t rfl rfl rfl) (fun hc => w_sidx rfl Tryz.underlying9 (ev_whn rfl hc) (ev_whn rfl hc) (by first | omega | ((try simp only [List.length_map, List.length_take, List.length_cons, List.length_nil, chunks_len, szR] at *); omega) | (have hc2 := hc; simp only [Bool.and_eq_true, Bool.or_eq_true, Bool.or_eq_false_iff, Bool.and_eq_false_iff, Bool.not_eq_true', Bool.not_eq_false', decide_eq_true_eq, decide_eq_false_iff_not, beq_iff_eq, bne_iff_ne, List.length_map, List.length_take] at hc2; omega)) (by assumption)) ?_
    refine sq_grd rfl rfl (guard_t rfl rfl rfl) (fun hc => w_leq rfl (ev_whn rfl hc) ev_ci) ?_
    refine sq_plain rfl rfl rfl (w_and rfl (ev_tmp rfl) (evif_w rfl)) ?_
    refine sq_plain rfl rfl rfl (w_move rfl (ev_tmp rfl)) ?_
    refine sq_grd rfl rfl (guard_f rfl rfl rfl) (fun hc => w_move rfl (ev_tmp rfl)) ?_
    refine sq_grd rfl rfl (guard_f rfl rfl rfl) (fun hc => w_move rfl (ev_tmp rfl)) ?_
    refine sq_grd rfl rfl (guard_f rfl rfl rfl) (fun hc => w_sidx rfl Tryz.underlying9 (ev_whn rfl hc) (ev_whn rfl hc) (by first | omega | ((try simp only [List.length_map, List.length_take, List.length_cons, List.length_nil, chunks_len, szR] at *); omega) | (have hc2 := hc; simp only [Bool.and_eq_true, Bool.or_eq_true, Bool.or_eq_false_iff, Bool.and_eq_false_iff, Bool.not_eq_true', Bool.not_eq_false', decide_eq_true_eq, decide_eq_false_iff_not, beq_iff_eq, bne_iff_ne, List.length_map, List.length_take] at hc2; omega)) (by assumption)) ?_
    refine sq_grd rfl rfl (guard_f rfl rfl rfl) (fun hc => w_geq rfl (ev_whn rfl hc) ev_ci) ?_
    refine sq_grd rfl rfl (guard_f rfl rfl rfl) (fun hc => w_move rfl (ev_whn rfl hc)) ?_
    refine sq_grd rfl rfl (guard_wt rfl rfl rfl) (fun hc => w_move rfl (ev_tmp rfl)) ?_
    refine sq_grd rfl rfl (guard_wt rfl rfl rfl) (fun hc => w_move rfl (ev_tmp rfl)) ?_
    refine sq_grd rfl rfl (guard_wt rfl rfl rfl) (fun hc => w_sidx rfl Tryz.underlying9 (ev_whn rfl hc) (ev_whn rfl hc) (by first | omega | ((try simp only [List.length_map, List.length_take, List.length_cons, List.length_nil, chunks_len, szR] at *); omega) | (have hc2 := hc; simp only [Bool.and_eq_true, Bool.or_eq_true, Bool.or_eq_false_iff, Bool.and_eq_false_iff, Bool.not_eq_true', Bool.not_eq_false', decide_eq_true_eq, decide_eq_false_iff_not, beq_iff_eq, bne_iff_ne, List.length_map, List.length_take] at hc2; omega)) (by assumption)) ?_
    refine sq_grd rfl rfl (guard_wt rfl rfl rfl) (fun hc => w_leq rfl (ev_whn rfl hc) ev_ci) ?_
    refine sq_grd rfl rfl (guard_f rfl rfl rfl) (fun hc => w_and rfl (ev_whn rfl hc) (evif_w2 rfl hc)) ?_
    refine sq_plain rfl rfl rfl (w_or rfl (ev_tmp rfl) (evif_w rfl)) ?_
    refine sq_plain rfl rfl rfl (w_assign rfl (ev_tmp rfl)) ?_
    refine sq_nil ?_
    refine awp_seq ?_
    refine awp_seq ?_
    refine awp_region ?_
    refine sq_plain rfl rfl rfl (w_assign rfl ev_ci) ?_
    refine sq_nil ?_
    refine awp_block ?_
    refine awp_loop_i2 [(0, _), (1, _), (5, _), (8, _), (9, _), (10, _), (11, _), (14, _), (15, _), (16, _), (17, _), (18, _), (23, _), (24, _), (35, _)] _ (fun (k : Nat) (b : Bool) => k ≤ o.length ∧ (lowDig c || o.any fun d => ((c.toNat : Int) == (d.toNat : Int))) = (b || (o.drop k).any fun d => ((c.toNat : Int) == (d.toNat : Int)))) (fun (k : Nat) (b : Bool) => []) (fun (k : Nat) (b : Bool) => [(6, AV.bool b), (7, AV.int k)]) (fun (k : Nat) (b : Bool) => o.length - k) (0) (lowDig c) ?_ (le_env ⟨rfl, rfl, rfl, rfl, rfl, rfl, rfl, rfl, rfl, rfl, rfl, rfl, rfl, rfl, rfl, rfl, rfl, trivial⟩) ?_
    · exact ⟨Nat.zero_le _, rfl⟩
    intro k b hinv
    refine awp_seq ?_
    refine awp_seq ?_
    refine awp_region ?_
    refine sq_plain rfl rfl rfl (w_move rfl (ev_tmp rfl)) ?_
    refine sq_plain rfl rfl rfl (w_move rfl (ev_tmp rfl)) ?_
    refine sq_plain rfl rfl rfl (w_slen rfl Tryz.underlying9 (ev_tmp rfl)) ?_
    refine sq_plain rfl rfl rfl (w_lss rfl (ev_tmp rfl) (ev_tmp rfl)) ?_
    refine sq_nil ?_
    refine awp_cond (ev_tmp rfl) ?_ ?_
    · intro h39
      have k39 := of_decide_eq_true h39; try simp only [List.length_map] at k39
      have hlt2 : k < o.length := by have := of_decide_eq_true h39; omega
      obtain ⟨d, hd⟩ := get_some hlt2
      refine awp_skip ?_
      refine awp_seq ?_
      refine awp_block ?_
      refine awp_region_any (by kernel_rfl) (by kernel_rfl) rfl ?_
      refine ch_plain rfl rfl (w_move rfl (ev_tmp rfl)) ?_
      refine ch_plain rfl rfl (w_move rfl (ev_tmp rfl)) ?_
      refine ch_grd rfl (guard_f rfl rfl rfl) (fun hc => w_move rfl (ev_tmp rfl)) ?_
      refine ch_grd rfl (guard_f rfl rfl rfl) (fun hc => w_move rfl (ev_tmp rfl)) ?_
      refine ch_grd rfl (guard_f rfl rfl rfl) (fun hc => w_sidx rfl Tryz.underlying9 (ev_whn rfl hc) (ev_whn rfl hc) (by first | omega | ((try simp only [List.length_map, List.length_take, List.length_cons, List.length_nil, chunks_len, szR] at *); omega) | (have hc2 := hc; simp only [Bool.and_eq_true, Bool.or_eq_true, Bool.or_eq_false_iff, Bool.and_eq_false_iff, Bool.not_eq_true', Bool.not_eq_false', decide_eq_true_eq, decide_eq_false_iff_not, beq_iff_eq, bne_iff_ne, List.length_map, List.length_take] at hc2; omega)) (by assumption)) ?_
      refine ch_grd rfl (guard_f rfl rfl rfl) (fun hc => w_move rfl (ev_tmp rfl)) ?_
      refine ch_grd rfl (guard_f rfl rfl rfl) (fun hc => w_move rfl (ev_tmp rfl)) ?_
      refine ch_grd rfl (guard_f rfl rfl rfl) (fun hc => w_sidx rfl Tryz.underlying9 (ev_whn rfl hc) (ev_whn rfl hc) (by first | omega | ((try simp only [List.length_map, List.length_take, List.length_cons, List.length_nil, chunks_len, szR] at *); omega) | (have hc2 := hc; simp only [Bool.and_eq_true, Bool.or_eq_true, Bool.or_eq_false_iff, Bool.and_eq_false_iff, Bool.not_eq_true', Bool.not_eq_false', decide_eq_true_eq, decide_eq_false_iff_not, beq_iff_eq, bne_iff_ne, List.length_map, List.length_take] at hc2; omega)) (by assumption)) ?_
      refine ch_grd rfl (guard_f rfl rfl rfl) (fun hc => w_eql rfl (ev_whn rfl hc) (ev_whn rfl hc)) ?_
      refine ch_plain rfl rfl (w_or rfl (ev_tmp rfl) (evif_w rfl)) ?_
      refine ch_plain rfl rfl (w_assign rfl (ev_tmp rfl)) ?_
      refine ch_nil ?_
      refine awp_region ?_
      refine sq_plain rfl rfl rfl (w_move rfl (ev_tmp rfl)) ?_
      refine sq_plain rfl rfl rfl (w_addi rfl (ev_tmp rfl) ev_ci (by first | omega | ((try simp only [List.length_map, List.length_take, List.length_cons, List.length_nil, chunks_len, szR] at *); omega) | (have hc2 := hc; simp only [Bool.and_eq_true, Bool.or_eq_true, Bool.or_eq_false_iff, Bool.and_eq_false_iff, Bool.not_eq_true', Bool.not_eq_false', decide_eq_true_eq, decide_eq_false_iff_not, beq_iff_eq, bne_iff_ne, List.length_map, List.length_take] at hc2; omega))) ?_
      refine sq_plain rfl rfl rfl (w_assign rfl (ev_tmp rfl)) ?_
      refine sq_nil ?_
      refine round_end2 k b (k + 1) ((b || ((c.toNat : Int) == (d.toNat : Int)))) ?_ ?_ (le_env ⟨rfl, rfl, rfl, rfl, rfl, rfl, rfl, rfl, rfl, rfl, rfl, rfl, rfl, rfl, rfl, rfl, rfl, trivial⟩)
      · exact ⟨by omega, by rw [hinv.2, drop_some hd, List.any_cons, Bool.or_assoc]⟩
      · omega
    · intro h39
      have k39 := of_decide_eq_false h39; try simp only [List.length_map] at k39
      have hge2 : o.length ≤ k := by have := of_decide_eq_false h39; omega
      have hg : (lowDig c || o.any fun d => ((c.toNat : Int) == (d.toNat : Int))) = b := by rw [hinv.2, List.drop_eq_nil_of_le hge2]; simp
      refine awp_exit ?_
      refine awp_seq ?_
      refine awp_region ?_
      refine sq_plain rfl rfl rfl (w_move rfl (ev_tmp rfl)) ?_
      refine sq_plain rfl rfl rfl (w_not rfl (ev_tmp rfl)) ?_
      refine sq_nil ?_
      refine awp_cond (ev_tmp rfl) ?_ ?_
      · intro h53
        have hfin : l3Bytes s o = false := by rw [hinv0.2, drop_some hc, l3Bytes_cons, hg]; cases b <;> simp_all
        refine awp_seq ?_
        refine awp_region ?_
        refine sq_plain rfl rfl rfl (w_assign rfl ev_cb) ?_
        refine sq_nil ?_
        refine awp_ret ?_
        exact retR rfl (rv_tmp' rfl (by first | exact congrArg AV.bool hfin.symm | exact congrArg AV.bool (by rw [hinv0.2, List.drop_eq_nil_of_le hge]; rfl)))
      · intro h53
        have hb : b = true := by cases b <;> simp_all
        refine awp_skip ?_
        refine awp_region ?_
        refine sq_plain rfl rfl rfl (w_move rfl (ev_tmp rfl)) ?_
        refine sq_plain rfl rfl rfl (w_addi rfl (ev_tmp rfl) ev_ci (by first | omega | ((try simp only [List.length_map, List.length_take, List.length_cons, List.length_nil, chunks_len, szR] at *); omega) | (have hc2 := hc; simp only [Bool.and_eq_true, Bool.or_eq_true, Bool.or_eq_false_iff, Bool.and_eq_false_iff, Bool.not_eq_true', Bool.not_eq_false', decide_eq_true_eq, decide_eq_false_iff_not, beq_iff_eq, bne_iff_ne, List.length_map, List.length_take] at hc2; omega))) ?_
        refine sq_plain rfl rfl rfl (w_assign rfl (ev_tmp rfl)) ?_
        refine sq_nil ?_
        refine round_end i (i + 1) ?_ ?_ (le_env ⟨rfl, rfl, rfl, trivial⟩)
        · exact ⟨by omega, by rw [hinv0.2, drop_some hc, l3Bytes_cons, hg, hb]; rfl⟩
        · omega
  · intro h11
    have k11 := of_decide_eq_false h11; try simp only [List.length_map] at k11
    have hge : s.length ≤ i := by have := of_decide_eq_false h11; omega
    refine awp_exit ?_
    refine awp_seq ?_
    refine awp_region ?_
    refine sq_plain rfl rfl rfl (w_assign rfl ev_cb) ?_
    refine sq_nil ?_
    refine awp_ret ?_
    exact retR rfl (rv_tmp' rfl (by first | exact congrArg AV.bool hfin.symm | exact congrArg AV.bool (by rw [hinv0.2, List.drop_eq_nil_of_le hge]; rfl)))
theorem goodKey_spec (s : Str) (hs : s.length ≤ 4611686018427387904) : FSpec Tryz.prog 118 [AV.str s] (AV.bool (goodKey s)) := by
  refine spec_of_awp Tryz.func118 rfl Tryz.ntmps118 rfl ?_
  refine awp_seq ?_
  refine awp_region ?_
  refine sq_plain rfl rfl rfl (w_assign rfl ev_cb) ?_
  refine sq_nil ?_
  refine awp_seq ?_
  refine awp_region ?_
  refine sq_plain rfl rfl rfl (w_move rfl (ev_tmp rfl)) ?_
  refine sq_plain rfl rfl rfl (w_slen rfl Tryz.underlying9 (ev_tmp rfl)) ?_
  refine sq_plain rfl rfl rfl (w_call rfl Tryz.call62 rfl (within_spec _ _ _) (evl_cons (ev_tmp rfl) (evl_cons ev_ci (evl_cons ev_ci evl_nil)))) ?_
  refine sq_plain rfl rfl rfl (w_move rfl (ev_tmp rfl)) ?_
  refine sq_grd rfl rfl (guard_t rfl rfl rfl) (fun hc => w_move rfl (ev_tmp rfl)) ?_
  refine sq_grd rfl rfl (guard_t rfl rfl rfl) (fun hc => w_call rfl Tryz.call153 rfl (hasB_spec _ _ (by omega)) (evl_cons (ev_whn rfl hc) (evl_cons (ev_cs' (l := [46, 47]) rfl) evl_nil))) ?_
  refine sq_plain rfl rfl rfl (w_and rfl (ev_tmp rfl) (evif_w rfl)) ?_
  refine sq_plain rfl rfl rfl (w_assign rfl (ev_tmp rfl)) ?_
  refine sq_nil ?_
  refine awp_ret ?_
  exact retR rfl (rv_tmp' rfl (by first | rfl | (refine congrArg AV.bool ?_; simp_all; done)))
theorem goodVal_spec (s : Str) (hs : s.length ≤ 4611686018427387904) : FSpec Tryz.prog 138 [AV.str s] (AV.bool (goodVal s)) := by
  refine spec_of_awp Tryz.func138 rfl Tryz.ntmps138 rfl ?_
  refine awp_seq ?_
  refine awp_region ?_
  refine sq_plain rfl rfl rfl (w_assign rfl ev_cb) ?_
  refine sq_nil ?_
  refine awp_seq ?_
  refine awp_region ?_
  refine sq_plain rfl rfl rfl (w_move rfl (ev_tmp rfl)) ?_
  refine sq_plain rfl rfl rfl (w_slen rfl Tryz.underlying9 (ev_tmp rfl)) ?_
  refine sq_plain rfl rfl rfl (w_leq rfl (ev_tmp rfl) ev_ci) ?_
  refine sq_plain rfl rfl rfl (w_move rfl (ev_tmp rfl)) ?_
  refine sq_grd rfl rfl (guard_t rfl rfl rfl) (fun hc => w_move rfl (ev_tmp rfl)) ?_
  refine sq_grd rfl rfl (guard_t rfl rfl rfl) (fun hc => w_call rfl Tryz.call153 rfl (hasB_spec _ _ (by omega)) (evl_cons (ev_whn rfl hc) (evl_cons (ev_cs' (l := [46, 45, 44, 95]) rfl) evl_nil))) ?_
  refine sq_plain rfl rfl rfl (w_and rfl (ev_tmp rfl) (evif_w rfl)) ?_
  refine sq_plain rfl rfl rfl (w_assign rfl (ev_tmp rfl)) ?_
  refine sq_nil ?_
  refine awp_ret ?_
  exact retR rfl (rv_tmp' rfl (by first | rfl | (refine congrArg AV.bool ?_; simp_all; done)))
theorem l3Key_spec (s : Str) (hs : s.length ≤ 4611686018427387904) : FSpec Tryz.prog 143 [AV.str s] (AV.bool (l3Key s)) := by
  refine spec_of_awp Tryz.func143 rfl Tryz.ntmps143 rfl ?_
  refine awp_seq ?_
  refine awp_region ?_
  refine sq_plain rfl rfl rfl (w_assign rfl ev_cb) ?_
  refine sq_nil ?_
  refine awp_seq ?_
  refine awp_region ?_
  refine sq_plain rfl rfl rfl (w_move rfl (ev_tmp rfl)) ?_
  refine sq_plain rfl rfl rfl (w_slen rfl Tryz.underlying9 (ev_tmp rfl)) ?_
  refine sq_plain rfl rfl rfl (w_call rfl Tryz.call109 rfl (l1In_spec _ _ _) (evl_cons (ev_tmp rfl) (evl_cons ev_ci (evl_cons ev_ci evl_nil)))) ?_
  refine sq_plain rfl rfl rfl (w_move rfl (ev_tmp rfl)) ?_
  refine sq_grd rfl rfl (guard_t rfl rfl rfl) (fun hc => w_move rfl (ev_tmp rfl)) ?_
  refine sq_grd rfl rfl (guard_t rfl rfl rfl) (fun hc => w_call rfl Tryz.call163 rfl (l3Bytes_spec _ _ (by omega) (by decide)) (evl_cons (ev_whn rfl hc) (evl_cons (ev_cs' (l := [46, 47]) rfl) evl_nil))) ?_
  refine sq_plain rfl rfl rfl (w_and rfl (ev_tmp rfl) (evif_w rfl)) ?_
  refine sq_plain rfl rfl rfl (w_assign rfl (ev_tmp rfl)) ?_
  refine sq_nil ?_
  refine awp_ret ?_
  exact retR rfl (rv_tmp' rfl (by first | rfl | (refine congrArg AV.bool ?_; simp_all; done)))
end Go.Proofs.YtmlmmgeadombbaaGreatDoor

set_option linter.unusedVariables false
set_option linter.unusedSimpArgs false
set_option maxRecDepth 100000
namespace Go.Proofs.YtmlmmgeadombbaaGreatDoor
open Go Go.AV Go.M
attribute [local irreducible] OpW OpA OpS AWP FSpec ESpec RetOk RvDen Le Ev GuardIs
theorem indexFuncOp_spec (l : List TOp) (pre : TOp → Prop) (f : TOp → Bool) (hp : ∀ x ∈ l, pre x) : FSpec Tryz.prog 137 [AV.list 4 (l.map TOp.cs), AV.fun1 Tryz.prog pre (fun a => AV.agg a.cs) (fun a => AV.bool (f a))] (AV.int (idxFrom f l 0)) := by
  refine spec_of_awp Tryz.func137 rfl Tryz.ntmps137 rfl ?_
  refine awp_len (t := 0) rfl fun hl => ?_
  try simp only [List.length_map] at hl
  refine awp_seq ?_
  refine awp_region ?_
  refine sq_plain rfl rfl rfl (w_assign rfl ev_ci) ?_
  refine sq_nil ?_
  refine awp_seq ?_
  refine awp_seq ?_
  refine awp_region ?_
  refine sq_plain rfl rfl rfl (w_move rfl (ev_tmp rfl)) ?_
  refine sq_plain rfl rfl rfl (w_llen rfl Tryz.underlying24 (ev_tmp rfl)) ?_
  refine sq_plain rfl rfl rfl (w_move rfl ev_ci) ?_
  refine sq_nil ?_
  refine awp_block ?_
  refine awp_loop_i [(0, _), (1, _), (7, _)] _ (fun (i : Nat) => i ≤ l.length ∧ idxFrom f l 0 = idxFrom f (l.drop i) i) (fun (i : Nat) => []) (fun (i : Nat) => [(8, AV.int i)]) (fun (i : Nat) => l.length - i) (0) ?_ (le_env ⟨rfl, rfl, rfl, rfl, trivial⟩) ?_
  · exact ⟨Nat.zero_le _, rfl⟩
  intro i hinv
  refine awp_seq ?_
  refine awp_region ?_
  refine sq_plain rfl rfl rfl (w_lss rfl (ev_tmp rfl) (ev_tmp rfl)) ?_
  refine sq_nil ?_
  refine awp_seq ?_
  refine awp_cond (ev_tmp rfl) ?_ ?_
  · intro h9
    have k9 := of_decide_eq_true h9; try simp only [List.length_map] at k9
    have hlt : i < l.length := by omega
    obtain ⟨x, hx⟩ := get_some hlt
    refine awp_skip ?_
    refine awp_seq ?_
    refine awp_block ?_
    refine awp_seq ?_
    refine awp_region ?_
    refine sq_plain rfl rfl rfl (w_move rfl (ev_tmp rfl)) ?_
    refine sq_plain rfl rfl rfl (w_assign rfl (ev_tmp rfl)) ?_
    refine sq_nil ?_
    refine awp_seq ?_
    refine awp_region ?_
    refine sq_plain rfl rfl rfl (w_move rfl (ev_tmp rfl)) ?_
    refine sq_plain rfl rfl rfl (w_move rfl (ev_tmp rfl)) ?_
    refine sq_plain rfl rfl rfl (w_move rfl (ev_tmp rfl)) ?_
    refine sq_plain rfl rfl rfl (w_idxm rfl Tryz.underlying24 Tryz.sizeOf55 (ev_tmp rfl) (ev_tmp rfl) hx (by first | omega | ((try simp only [List.length_map, List.length_take, List.length_cons, List.length_nil, chunks_len, szR] at *); omega) | (have hc2 := hc; simp only [Bool.and_eq_true, Bool.or_eq_true, Bool.or_eq_false_iff, Bool.and_eq_false_iff, Bool.not_eq_true', Bool.not_eq_false', decide_eq_true_eq, decide_eq_false_iff_not, beq_iff_eq, bne_iff_ne, List.length_map, List.length_take] at hc2; omega))) ?_
    refine sq_plain rfl rfl rfl (w_loadE rfl (ev_tmp rfl) Tryz.isAgg55 Tryz.sizeOf55) ?_
    refine sq_plain rfl rfl rfl (w_callv1 rfl (ev_tmp rfl) x (hp x (List.mem_of_getElem? hx)) (ev_tmp rfl)) ?_
    refine sq_nil ?_
    refine awp_cond (ev_tmp rfl) ?_ ?_
    · intro h16
      refine awp_seq ?_
      refine awp_region ?_
      refine sq_plain rfl rfl rfl (w_move rfl (ev_tmp rfl)) ?_
      refine sq_plain rfl rfl rfl (w_assign rfl (ev_tmp rfl)) ?_
      refine sq_nil ?_
      refine awp_ret ?_
      exact retR rfl (rv_tmp' rfl (by first | exact congrArg AV.int (by rw [hinv.2, drop_some hx, idxFrom, h16]; rfl) | exact congrArg AV.int (by rw [hinv.2, List.drop_eq_nil_of_le hge]; rfl)))
    · intro h16
      refine awp_skip ?_
      refine awp_region ?_
      refine sq_plain rfl rfl rfl (w_addi rfl (ev_tmp rfl) ev_ci (by first | omega | ((try simp only [List.length_map, List.length_take, List.length_cons, List.length_nil, chunks_len, szR] at *); omega) | (have hc2 := hc; simp only [Bool.and_eq_true, Bool.or_eq_true, Bool.or_eq_false_iff, Bool.and_eq_false_iff, Bool.not_eq_true', Bool.not_eq_false', decide_eq_true_eq, decide_eq_false_iff_not, beq_iff_eq, bne_iff_ne, List.length_map, List.length_take] at hc2; omega))) ?_
      refine sq_plain rfl rfl rfl (w_move rfl (ev_tmp rfl)) ?_
      refine sq_nil ?_
      refine round_end i (i + 1) ?_ ?_ (le_env ⟨rfl, rfl, rfl, rfl, trivial⟩)
      · exact ⟨by omega, by rw [hinv.2, drop_some hx, idxFrom, h16]; simp⟩
      · omega
  · intro h9
    have k9 := of_decide_eq_false h9; try simp only [List.length_map] at k9
    have hge : l.length ≤ i := by omega
    refine awp_exit ?_
    refine awp_seq ?_
    refine awp_region ?_
    refine sq_plain rfl rfl rfl (w_assign rfl ev_ci) ?_
    refine sq_nil ?_
    refine awp_ret ?_
    exact retR rfl (rv_tmp' rfl (by first | exact congrArg AV.int (by rw [hinv.2, drop_some hx, idxFrom, h16]; rfl) | exact congrArg AV.int (by rw [hinv.2, List.drop_eq_nil_of_le hge]; rfl)))
theorem containsFuncOp_spec (l : List TOp) (pre : TOp → Prop) (f : TOp → Bool) (hp : ∀ x ∈ l, pre x) : FSpec Tryz.prog 93 [AV.list 4 (l.map TOp.cs), AV.fun1 Tryz.prog pre (fun a => AV.agg a.cs) (fun a => AV.bool (f a))] (AV.bool (l.any f)) := by
  refine spec_of_awp Tryz.func93 rfl Tryz.ntmps93 rfl ?_
  refine awp_seq ?_
  refine awp_region ?_
  refine sq_plain rfl rfl rfl (w_assign rfl ev_cb) ?_
  refine sq_nil ?_
  refine awp_seq ?_
  refine awp_region ?_
  refine sq_plain rfl rfl rfl (w_move rfl (ev_tmp rfl)) ?_
  refine sq_plain rfl rfl rfl (w_move rfl (ev_tmp rfl)) ?_
  refine sq_plain rfl rfl rfl (w_call rfl Tryz.call137 rfl (indexFuncOp_spec _ _ _ (by first | (intros; trivial) | assumption | (intros; first | trivial | (simp_all; done)))) (evl_cons (ev_tmp rfl) (evl_cons (ev_tmp rfl) evl_nil))) ?_
  refine sq_plain rfl rfl rfl (w_geq rfl (ev_tmp rfl) ev_ci) ?_
  refine sq_plain rfl rfl rfl (w_assign rfl (ev_tmp rfl)) ?_
  refine sq_nil ?_
  refine awp_ret ?_
  exact retR rfl (rv_tmp' rfl (by exact congrArg AV.bool (idxFrom_any f l 0 (Int.le_refl 0))))
end Go.Proofs.YtmlmmgeadombbaaGreatDoor

set_option linter.unusedVariables false
set_option linter.unusedSimpArgs false
set_option maxRecDepth 100000
namespace Go.Proofs.YtmlmmgeadombbaaGreatDoor
open Go Go.AV Go.M
attribute [local irreducible] OpW OpA OpS AWP FSpec ESpec RetOk RvDen Le Ev GuardIs
theorem l3Val_spec (s : Str) (hs : s.length ≤ 4611686018427387904) : FSpec Tryz.prog 144 [AV.str s] (AV.bool (l3Val s)) := by
  refine spec_of_awp Tryz.func144 rfl Tryz.ntmps144 rfl ?_
  refine awp_seq ?_
  refine awp_region ?_
  refine sq_plain rfl rfl rfl (w_assign rfl ev_cb) ?_
  refine sq_nil ?_
  refine awp_seq ?_
  refine awp_region ?_
  refine sq_plain rfl rfl rfl (w_move rfl (ev_tmp rfl)) ?_
  refine sq_plain rfl rfl rfl (w_slen rfl Tryz.underlying9 (ev_tmp rfl)) ?_
  refine sq_plain rfl rfl rfl (w_leq rfl (ev_tmp rfl) ev_ci) ?_
  refine sq_plain rfl rfl rfl (w_move rfl (ev_tmp rfl)) ?_
  refine sq_grd rfl rfl (guard_t rfl rfl rfl) (fun hc => w_move rfl (ev_tmp rfl)) ?_
  refine sq_grd rfl rfl (guard_t rfl rfl rfl) (fun hc => w_call rfl Tryz.call163 rfl (l3Bytes_spec _ _ (by omega) (by decide)) (evl_cons (ev_whn rfl hc) (evl_cons (ev_cs' (l := [46, 45, 44, 95]) rfl) evl_nil))) ?_
  refine sq_plain rfl rfl rfl (w_and rfl (ev_tmp rfl) (evif_w rfl)) ?_
  refine sq_plain rfl rfl rfl (w_assign rfl (ev_tmp rfl)) ?_
  refine sq_nil ?_
  refine awp_ret ?_
  exact retR rfl (rv_tmp' rfl (by first | rfl | (refine congrArg AV.bool ?_; simp_all; done)))
end Go.Proofs.YtmlmmgeadombbaaGreatDoor

namespace Go.Proofs
open Go.Shelf
set_option linter.unusedVariables false
def Tryz.itoa_ren : Go.Shelf.Ren := ⟨fun | 171 => 96 | 243 => 139 | 246 => 160 | 283 => 187 | 284 => 188 | 285 => 189 | 286 => 190 | 129 => 186 | 317 => 207 | 318 => 208 | 319 => 209 | 320 => 210 | 337 => 216 | 338 => 217 | n => n, fun | 3 => 3 | 9 => 9 | 2 => 2 | 4 => 4 | 171 => 153 | 0 => 0 | 53 => 59 | 37 => 22 | 5 => 5 | 173 => 155 | 212 => 172 | 51 => 151 | 20 => 20 | 213 => 173 | 46 => 124 | 232 => 187 | 233 => 188 | n => n, fun | 17 => 3 | 18 => 6 | 19 => 7 | n => n⟩
theorem Tryz.itoa : Go.Proofs.LaysM.n171 Tryz.prog Tryz.itoa_ren := {
  mixed := by kernel_rfl
  f129 := Tryz.func186.trans (congrArg some (by kernel_rfl))
  f171 := Tryz.func96.trans (congrArg some (by kernel_rfl))
  f243 := Tryz.func139.trans (congrArg some (by kernel_rfl))
  f246 := Tryz.func160.trans (congrArg some (by kernel_rfl))
  f283 := Tryz.func187.trans (congrArg some (by kernel_rfl))
  f284 := Tryz.func188.trans (congrArg some (by kernel_rfl))
  f285 := Tryz.func189.trans (congrArg some (by kernel_rfl))
  f286 := Tryz.func190.trans (congrArg some (by kernel_rfl))
  f317 := Tryz.func207.trans (congrArg some (by kernel_rfl))
  f318 := Tryz.func208.trans (congrArg some (by kernel_rfl))
  f319 := Tryz.func209.trans (congrArg some (by kernel_rfl))
  f320 := Tryz.func210.trans (congrArg some (by kernel_rfl))
  f337 := Tryz.func216.trans (congrArg some (by kernel_rfl))
  f338 := Tryz.func217.trans (congrArg some (by kernel_rfl))
  t0 := Tryz.underlying0
  a0 := Tryz.isAgg0
  z0 := Tryz.sizeOf0
  v0 := Tryz.zeroValue0
  t2 := Tryz.underlying2
  a2 := Tryz.isAgg2
  z2 := Tryz.sizeOf2
  v2 := Tryz.zeroValue2
  t3 := Tryz.underlying3
  a3 := Tryz.isAgg3
  z3 := Tryz.sizeOf3
  v3 := Tryz.zeroValue3
  t4 := Tryz.underlying4
  a4 := Tryz.isAgg4
  z4 := Tryz.sizeOf4
  v4 := Tryz.zeroValue4
  t5 := Tryz.underlying5
  a5 := Tryz.isAgg5
  z5 := Tryz.sizeOf5
  v5 := Tryz.zeroValue5
  t9 := Tryz.underlying9
  a9 := Tryz.isAgg9
  z9 := Tryz.sizeOf9
  v9 := Tryz.zeroValue9
  t20 := Tryz.underlying20
  a20 := Tryz.isAgg20
  z20 := Tryz.sizeOf20
  v20 := Tryz.zeroValue20
  t37 := Tryz.underlying22
  a37 := Tryz.isAgg22
  z37 := Tryz.sizeOf22
  v37 := Tryz.zeroValue22
  t46 := Tryz.underlying124
  a46 := Tryz.isAgg124
  z46 := Tryz.sizeOf124
  v46 := Tryz.zeroValue124
  t51 := Tryz.underlying151
  a51 := Tryz.isAgg151
  z51 := Tryz.sizeOf151
  v51 := Tryz.zeroValue151
  t53 := Tryz.underlying59
  a53 := Tryz.isAgg59
  z53 := Tryz.sizeOf59
  v53 := Tryz.zeroValue59
  t171 := Tryz.underlying153
  a171 := Tryz.isAgg153
  z171 := Tryz.sizeOf153
  v171 := Tryz.zeroValue153
  t173 := Tryz.underlying155
  a173 := Tryz.isAgg155
  z173 := Tryz.sizeOf155
  v173 := Tryz.zeroValue155
  t212 := Tryz.underlying172
  a212 := Tryz.isAgg172
  z212 := Tryz.sizeOf172
  v212 := Tryz.zeroValue172
  t213 := Tryz.underlying173
  a213 := Tryz.isAgg173
  z213 := Tryz.sizeOf173
  t232 := Tryz.underlying187
  a232 := Tryz.isAgg187
  z232 := Tryz.sizeOf187
  v232 := Tryz.zeroValue187
  t233 := Tryz.underlying188
  a233 := Tryz.isAgg188
  z233 := Tryz.sizeOf188
  v233 := Tryz.zeroValue188
  g17 := by kernel_rfl
  g18 := by kernel_rfl
  g19 := by kernel_rfl
  i0 := by kernel_rfl
  i2 := by kernel_rfl
  i3 := by kernel_rfl
  i4 := by kernel_rfl
  i5 := by kernel_rfl
  i9 := by kernel_rfl
  i20 := by kernel_rfl
  i37 := by kernel_rfl
  i46 := by kernel_rfl
  i51 := by kernel_rfl
  i53 := by kernel_rfl
  i171 := by kernel_rfl
  i173 := by kernel_rfl
  i212 := by kernel_rfl
  i232 := by kernel_rfl
  i233 := by kernel_rfl
  m17 := by kernel_rfl
  m18 := by kernel_rfl
  m19 := by kernel_rfl }
end Go.Proofs

set_option linter.unusedVariables false
set_option linter.unusedSimpArgs false
set_option maxRecDepth 100000
namespace Go.Proofs.YtmlmmgeadombbaaGreatDoor
open Go Go.AV Go.M
attribute [local irreducible] OpW OpA OpS AWP FSpec ESpec GSpec OpE RetOk RetOkG RvDen Le Ev GuardIs SrcIs Int.tmod Int.tdiv IntKind.wrap
def tabW (w : World) : Prop := Lib.TabIs Tryz.prog w "internal/strconv.uint64pow10" .u64 Lib.pow10Tab
theorem tabW_heap {W w' : World} (h : tabW W) (hw : RLe (heapR W) w') : tabW w' := tabIs_heap h hw
theorem tabW_head {W : World} {rest : List (String × DataW Unit)} (h : laidMet Tryz.prog (("internal/strconv.uint64pow10", Lib.tabData .u64 Lib.pow10Tab) :: rest) W) : tabW W :=
  Lib.tabIs_of_head (g := 3) (t := 172) (by kernel_rfl) (by kernel_rfl) Tryz.underlying172 Tryz.underlying59 (by kernel_rfl) (by kernel_rfl) h
theorem itoa_spec (n : Int) (h : -9223372036854775808 ≤ n ∧ n ≤ 9223372036854775807) : FSpec Tryz.prog 96 [AV.wt tabW (AV.int n)] (AV.str (itoaD n)) :=
  fspec_wt fun R w v hr hv hT => by
    rw [show v = Value.int .i64 n from hv]
    refine (Any.strconv_Itoa Tryz.itoa n h.1 h.2 w hT).mono ?_
    rintro e w' ⟨rfl, k, os, rfl⟩
    exact ⟨_, rfl, rfl, below_grown w k os⟩
theorem l1Num_spec (n : Nat) : n ≤ 1000000000000 → FSpec Tryz.prog 117 [AV.int n] (AV.str (decD n)) := by
  induction n using Nat.strongRecOn with
  | ind n ih =>
    intro hn
    refine spec_of_awp Tryz.func117 rfl Tryz.ntmps117 rfl ?_
    refine awp_seq ?_
    refine awp_region ?_
    refine sq_plain rfl rfl rfl (w_assign rfl (ev_cs' (l := []) rfl)) ?_
    refine sq_nil ?_
    refine awp_seq ?_
    refine awp_seq ?_
    refine awp_region ?_
    refine sq_plain rfl rfl rfl (w_move rfl (ev_tmp rfl)) ?_
    refine sq_plain rfl rfl rfl (w_lss rfl (ev_tmp rfl) ev_ci) ?_
    refine sq_nil ?_
    refine awp_cond (ev_tmp rfl) ?_ ?_
    · intro h4
      have k4 := of_decide_eq_true h4; try simp only [List.length_map] at k4
      have hn10 : n < 10 := by omega
      refine awp_seq ?_
      refine awp_region ?_
      refine sq_plain rfl rfl rfl (w_move rfl (ev_tmp rfl)) ?_
      refine sq_plain rfl rfl rfl (w_addi rfl ev_ci (ev_tmp rfl) (by first | omega | ((try simp only [List.length_map, List.length_take, List.length_cons, List.length_nil, chunks_len, szR] at *); omega) | (have hc2 := hc; simp only [Bool.and_eq_true, Bool.or_eq_true, Bool.or_eq_false_iff, Bool.and_eq_false_iff, Bool.not_eq_true', Bool.not_eq_false', decide_eq_true_eq, decide_eq_false_iff_not, beq_iff_eq, bne_iff_ne, List.length_map, List.length_take] at hc2; omega))) ?_
      refine sq_plain rfl rfl rfl (w_conv rfl (by kernel_rfl) Tryz.underlying5 (ev_tmp rfl)) ?_
      rw [dig1]
      refine sq_plain rfl rfl rfl (w_bslice rfl Tryz.underlying22 Tryz.sizeOf5 Tryz.zeroValue5 rfl rfl rfl rfl (bp_cons (ev_tmp rfl) (as_ik _ _) bp_nil) rfl rfl) ?_
      refine sq_plain rfl rfl rfl (w_convB (bs := [UInt8.ofNat (48 + n)]) rfl Tryz.underlying22 Tryz.underlying5 Tryz.underlying9 (ev_tmp rfl)) ?_
      refine sq_plain rfl rfl rfl (w_assign rfl (ev_tmp rfl)) ?_
      refine sq_nil ?_
      refine awp_ret ?_
      exact retR rfl (rv_tmp' rfl (by first | exact congrArg AV.str (decD_small hn10).symm | exact congrArg AV.str (decD_big hn10).symm))
    · intro h4
      have k4 := of_decide_eq_false h4; try simp only [List.length_map] at k4
      have hn10 : ¬ n < 10 := by omega
      have hdl := decD_len (k := 12) (n := n / 10) (by omega) (by decide)
      refine awp_skip ?_
      refine awp_seq ?_
      refine awp_region_any (by kernel_rfl) (by kernel_rfl) rfl ?_
      refine ch_plain rfl rfl (w_move rfl (ev_tmp rfl)) ?_
      refine ch_plain rfl rfl (w_quo rfl (ev_tmp rfl) ev_ci (by decide)) ?_
      rw [quo10 hn]
      refine ch_plain rfl rfl (w_call rfl Tryz.call117 rfl (ih (n / 10) (by omega) (by omega)) (evl_cons (ev_tmp rfl) evl_nil)) ?_
      refine ch_plain rfl rfl (w_move rfl (ev_tmp rfl)) ?_
      refine ch_plain rfl rfl (w_rem rfl (ev_tmp rfl) ev_ci (by decide)) ?_
      refine ch_plain rfl rfl (w_addi rfl ev_ci (ev_tmp rfl) (by rw [tmod10]; omega)) ?_
      refine ch_plain rfl rfl (w_conv rfl (by kernel_rfl) Tryz.underlying5 (ev_tmp rfl)) ?_
      rw [dig2]
      refine ch_plain rfl rfl (w_bslice rfl Tryz.underlying22 Tryz.sizeOf5 Tryz.zeroValue5 rfl rfl rfl rfl (bp_cons (ev_tmp rfl) (as_ik _ _) bp_nil) rfl rfl) ?_
      refine ch_plain rfl rfl (w_convB (bs := [UInt8.ofNat (48 + n % 10)]) rfl Tryz.underlying22 Tryz.underlying5 Tryz.underlying9 (ev_tmp rfl)) ?_
      refine ch_plain rfl rfl (w_cat rfl (ev_tmp rfl) (ev_tmp rfl) (by first | omega | (simp only [List.length_append, List.length_take, List.length_drop, List.length_cons, List.length_nil]; omega))) ?_
      refine ch_plain rfl rfl (w_assign rfl (ev_tmp rfl)) ?_
      refine ch_nil ?_
      refine awp_ret ?_
      exact retR rfl (rv_tmp' rfl (by first | exact congrArg AV.str (decD_small hn10).symm | exact congrArg AV.str (decD_big hn10).symm))
end Go.Proofs.YtmlmmgeadombbaaGreatDoor

set_option linter.unusedVariables false
set_option linter.unusedSimpArgs false
set_option maxRecDepth 100000
namespace Go.Proofs.YtmlmmgeadombbaaGreatDoor
open Go Go.AV Go.M
attribute [local irreducible] OpW OpA OpS AWP FSpec ESpec RetOk RvDen Le Ev GuardIs
end Go.Proofs.YtmlmmgeadombbaaGreatDoor

set_option linter.unusedVariables false
set_option linter.unusedSimpArgs false
set_option maxRecDepth 100000
namespace Go.Proofs.YtmlmmgeadombbaaGreatDoor
open Go Go.AV Go.M
attribute [local irreducible] OpW OpA OpS AWP FSpec ESpec RetOk RvDen Le Ev GuardIs
end Go.Proofs.YtmlmmgeadombbaaGreatDoor

set_option linter.unusedVariables false
namespace Go.M
open Go.AV
end Go.M

set_option linter.unusedVariables false
set_option linter.unusedSimpArgs false
set_option maxRecDepth 100000
namespace Go.Proofs.YtmlmmgeadombbaaGreatDoor
open Go Go.AV Go.M
attribute [local irreducible] OpW OpA OpS AWP FSpec ESpec RetOk RvDen Le Ev GuardIs
end Go.Proofs.YtmlmmgeadombbaaGreatDoor

set_option linter.unusedVariables false
set_option linter.unusedSimpArgs false
set_option maxRecDepth 100000
namespace Go.Proofs.YtmlmmgeadombbaaGreatDoor
open Go Go.AV Go.M
attribute [local irreducible] OpW OpA OpS AWP FSpec ESpec GSpec OpE RetOk RetOkG RvDen Le Ev GuardIs
end Go.Proofs.YtmlmmgeadombbaaGreatDoor

set_option linter.unusedVariables false
set_option linter.unusedSimpArgs false
set_option maxRecDepth 100000
namespace Go.Proofs.YtmlmmgeadombbaaGreatDoor
open Go Go.AV Go.M
attribute [local irreducible] OpW OpA OpS AWP FSpec ESpec GSpec OpE RetOk RetOkG RvDen Le Ev GuardIs SrcIs
end Go.Proofs.YtmlmmgeadombbaaGreatDoor

namespace Go.Proofs
open Go.Shelf
set_option linter.unusedVariables false
end Go.Proofs

set_option linter.unusedVariables false
set_option linter.unusedSimpArgs false
set_option maxRecDepth 100000
namespace Go.AV
end Go.AV
namespace Go.Proofs.YtmlmmgeadombbaaGreatDoor
open Go Go.AV Go.M
attribute [local irreducible] OpW OpA OpS AWP FSpec ESpec GSpec OpE RetOk RetOkG RvDen Le Ev GuardIs SrcIs Int.tmod Int.tdiv IntKind.wrap
end Go.Proofs.YtmlmmgeadombbaaGreatDoor

set_option linter.unusedVariables false
set_option linter.unusedSimpArgs false
namespace Go.AV
open Go.RowKit (Below)
def AV.errB (b : Bool) : AV := ⟨fun _ v => (b = false → v = .nilIface) ∧ (b = true → ∃ t p, v = .iface t p), fun _ h => h⟩
section
variable {P : Program} {G : Nat → Prop} {n : Nat} {own : List Own} {o : Oper} {E : EnvF}
theorem w_errneq {b : Bool} {t : TypeId} {p : Operand} {ty : TypeId} (ho : o.op = .binOp .neq t p (.const .nilIface) ty) (ht : P.underlying t = some (.interface (P.methodsAt t))) (hp : Ev E p (AV.errB b)) : OpW P G n own o E (AV.bool b) := opW_val fun R a w _ he => by
  have h1 : (b = false → a.eval p = .nilIface) ∧ (b = true → ∃ t p', a.eval p = .iface t p') := ev_use hp (by simp [ho, Op.operands]) he
  have h3 : a.eval (.const .nilIface) = .nilIface := rfl
  cases b with
  | false =>
    have h2 := h1.1 rfl
    exact ⟨.bool false, by simp only [execOp, ho, h2, h3, eqGuard_nil_constR, Sem.run_bind, Sem.run_pure, Result.andThen_ok, run_neq_nil_nil w t ht], rfl⟩
  | true =>
    obtain ⟨u, x, h2⟩ := h1.2 rfl
    exact ⟨.bool true, by simp only [execOp, ho, h2, h3, eqGuard_at_iface, Sem.run_bind, Sem.run_pure, Result.andThen_ok, run_neq_held_nil w t u x ht], rfl⟩
theorem w_callT {f : FuncId} {args : Array Operand} {tys : Array TypeId} {ps : List Operand} {x : AV} {xs : List AV} {y : AV} {T T' : World → Prop} (i : Nat) (hi : own[i]? = some (.tab T')) (ho : o.op = .call { callee := .value (.func f), args := args, argTypes := tys }) (hc : ∀ (vs : Array Value) (w : World), (callFunc f vs).run P w = .ok (.enter f vs) w)
    (hps : args.toList = ps) (hs : FSpec P f (AV.wt T x :: xs) y) (he : EvL E ps (x :: xs)) (hT : ∀ w, T' w → T w) : OpW P G n own o E y := fun w0 R0 R a w hcore _ hen => by
  have hd := evl_use hen he fun p hp => by simp [ho, Op.operands, Call.operands]; right; rw [← hps] at hp; exact Array.mem_toList_iff.1 hp
  have htab : ∀ w' : World, RLe R w' → T w' := fun w' hw' => hT w' ((hcore.owned _ (List.mem_of_getElem? hi)) w' hw')
  have hd2 : DenV R (ps.map a.eval) (AV.wt T x :: xs) := ⟨hd.1, fun j v z hv hz => by
    cases j with
    | zero =>
      simp at hz; subst hz
      exact ⟨hd.2 0 v x hv rfl, htab⟩
    | succ j => exact hd.2 (j + 1) v z hv hz⟩
  have hrun : (execOp a.eval o).run P w = .ok (.enter f (ps.map a.eval).toArray) w := by
    have hargs : args.map a.eval = (ps.map a.eval).toArray := by rw [← hps]; cases args; simp
    simp only [execOp, ho, resolve, hargs, show a.eval (.func f) = .func (.func f) #[] #[] from rfl]
    simp [Deferred.ofValue, invoke, hc]
  unfold Oper.wp
  rw [hrun, Oper.upon_enter]
  refine (hs R w _ hcore.rle hd2).mono fun e w' ⟨v, R', e1, e2, e3, e4, e5⟩ => ?_
  subst e1
  exact ⟨v, R', rfl, hcore.step e5 e3 e4, rsub_of hcore.rle e4, e2⟩
theorem below_same (w : World) : Below w.heap.size w w := ⟨rfl, rfl, rfl, Nat.le_refl _, fun _ _ => rfl⟩
theorem below_bytes (w : World) (e : TypeId) (t : ByteArray) : Below w.heap.size w (Lib.bytesWorld w e t) :=
  ⟨rfl, rfl, rfl, by rw [Lib.bytesWorld_size]; exact Nat.le_succ _, fun b hb => Lib.bytesWorld_at_old w e t b hb⟩
theorem denC_strs {R : RHeap} (ps : List ByteArray) : DenC R (ps.map Value.string) (((ps.map (·.data.toList)).map fun s : List UInt8 => [AV.str s]).flatten) := by
  have e : ((ps.map (·.data.toList)).map fun s : List UInt8 => [AV.str s]).flatten = (ps.map Value.string).map AV.is := by
    induction ps with
    | nil => rfl
    | cons b ps ih =>
      simp only [List.map_cons, List.flatten_cons, ih, List.cons_append, List.nil_append]
      rfl
  rw [e]
  refine ⟨by simp, fun i v x hv hx => ?_⟩
  rw [List.getElem?_map, hv] at hx
  injection hx with hx; subst hx
  obtain ⟨b, _, rfl⟩ := List.mem_map.1 (List.mem_of_getElem? hv)
  exact ⟨rfl, rfl⟩
theorem pieces_own {f : FuncId} {T : World → Prop} {s : List UInt8} {c : UInt8} {t : TypeId} {L : List (List UInt8)} {ps : List ByteArray} (hL : ps.map (·.data.toList) = L) (hlen : ps.length ≤ maxLen)
    (h : ∀ w : World, T w → Calls P f #[.string ⟨s.toArray⟩, .string ⟨#[c]⟩] w fun e w' => e = .returned (.slice (some ⟨w.heap.size, 0, none⟩) ps.length ps.length) ∧ w' = w.alloc (.cells (ps.map Value.string).toArray t)) :
    GSpec P f [AV.wt T (AV.str s), AV.str [c]] [] (fun _ : Value => True) (fun v => [.arr v t 1 (L.map fun x => [AV.str x])]) (fun v => AV.is v) := fun R w vs hr hd _ _ => by
  match vs, hd.1 with
  | [u, v], _ =>
    have h1 := hd.2 0 u _ rfl rfl
    have h2 := hd.2 1 v _ rfl rfl
    rw [show u = Value.string ⟨s.toArray⟩ from h1.1, show v = Value.string ⟨#[c]⟩ from h2]
    refine (h w (h1.2 w hr)).mono fun e w' ⟨e1, e2⟩ => ?_
    subst e1; subst e2; subst hL
    refine ⟨_, _, R, trivial, rfl, rfl, ?_⟩
    exact core_arr_new (core_start hr) (by simp) (Nat.le_refl _) hlen (by simp) (fun x hx => by
      obtain ⟨b, _, rfl⟩ := List.mem_map.1 hx; rfl) (by
      have h9 := denC_strs (R := R) ps
      have e9 : ((ps.map Value.string).toArray.toList.take (ps.length * 1)) = ps.map Value.string := by rw [Nat.mul_one]; exact List.take_of_length_le (by simp)
      rw [e9]; exact h9)
theorem handed_shaped {H : Type} {enc : TypeId × Value → H} {a : Assume} {C : Checked} {os : Os} {f : FuncId} {fn : Func} {s : ChangeSpec} {conds : List PathCond} {apart fresh handsOn again : Bool} {X : World → Array Value → Prop}
    (hX : ∀ (w w' : World) (args : Array Value), w.heap = w'.heap → X w args → X w' args)
    (own : ownKnob C.prog.godebug = none) (started : os.Started) (noInit : C.prog.inits.idxOf? f = none) (hfn : C.prog.funcs[f]? = some fn)
    (witness : ∃ (w : World) (tape : Tape) (i : Input), w.os = os ∧ (w.forCall tape i).Shaped C.prog ∧ i.vars = [] ∧ Input.okWide C.prog (w.forCall tape i) .any w.heap.size f i ∧
      ((s.pre enc C.prog fn conds apart (w.forCall tape i).memory i.args ∧ X (w.forCall tape i).memory i.args) ∧ sizedMet enc C.prog fn (OpenSpec.ofChange s) apart (w.forCall tape i).memory i.args) ∧ a.holds C.prog (lone (Frame.enter C.prog f i.args .normal) [] (w.forCall tape i)))
    (contract : ∀ (W : World) (base : Nat) (args : Array Value) (ds gs : List (DataW H)) (before : List MemPlace),
      (∀ (j : Nat) t v, fn.params[j]? = some t → args[j]? = some v → Value.okWide C.prog W .any base t v) →
      DataW.Whole enc C.prog fn.params.toList s.vars apart W args.toList ds gs before →
      W.ShapedOpen C.prog →
      (DataW.weightsEach C.prog (fn.params.toList ++ s.plain.varTypes C.prog) (ds ++ gs)).all (· ≤ reachBytes) = true → X W args →
      a.holds C.prog (lone (Frame.enter C.prog f args .normal) [] W) →
      Calls C.prog f args W fun e W' => ∃ v, e = .returned v ∧ s.post enc C.prog fn apart fresh handsOn again W args v W') :
    ReturnsInHanded a C os f .any (fun w args => (s.pre enc C.prog fn conds apart w args ∧ X w args) ∧ sizedMet enc C.prog fn (OpenSpec.ofChange s) apart w args) (s.post enc C.prog fn apart fresh handsOn again) := by
  refine returnsInHanded_of_calls own started noInit witness ?_
  intro w tape i _ hsh _ hok hpre hholds
  obtain ⟨_, _, _, fn', hfn', _, _, _, _, hval⟩ := hok
  have e : fn' = fn := Option.some.inj (hfn'.symm.trans hfn)
  subst e
  obtain ⟨⟨⟨ds, gs, before, hw, hc⟩, hx⟩, hz⟩ := hpre
  have hw' := DataW.Whole.of_heap (w' := w.forCall tape i) (by rfl) hw
  refine (contract (w.forCall tape i) w.heap.size i.args ds gs before hval hw' hsh (hz.weights hw) (hX _ _ _ (by rfl) hx) hholds).mono fun e W' ⟨v, he, hp⟩ => ?_
  subst he
  exact ChangeSpec.post_blind hp
theorem cell_heap {W w' : World} {g : Nat} {v : Value} (h : W.cell? ⟨g, 0, none⟩ = some v) (hw : RLe (heapR W) w') : w'.cell? ⟨g, 0, none⟩ = some v := by
  unfold World.cell? at h ⊢
  dsimp only at h ⊢
  cases ho : W.heap[g]? with
  | none => rw [ho] at h; simp at h
  | some o => rw [ho] at h; rw [hw g o ho]; exact h
theorem var_heap {P : Program} {W w' : World} {name : String} {vs : Array Value} (h : W.var? P name = some vs) (hw : RLe (heapR W) w') : w'.var? P name = some vs := by
  unfold World.var? at h ⊢
  cases hg : P.globalNamed name with
  | none => rw [hg] at h; cases h
  | some g =>
    rw [hg] at h
    simp only [Option.bind_some] at h ⊢
    cases ho : W.heap[g]? with
    | none => rw [ho] at h; cases h
    | some o =>
      rw [ho] at h
      rw [hw g o ho]
      exact h
end
end Go.AV

namespace Go.Proofs
open Go.Shelf
set_option linter.unusedVariables false
def Tryz.split_ren : Go.Shelf.Ren := ⟨fun | 146 => 41 | 221 => 101 | 268 => 145 | 138 => 146 | 143 => 147 | 195 => 164 | 197 => 165 | 218 => 166 | 219 => 167 | 260 => 193 | 217 => 194 | 225 => 195 | 224 => 196 | 267 => 197 | 266 => 211 | 314 => 212 | n => n, fun | 9 => 9 | 31 => 34 | 3 => 3 | 4 => 4 | 0 => 0 | 105 => 133 | 21 => 21 | 5 => 5 | 46 => 124 | 119 => 174 | 139 => 177 | 138 => 176 | 146 => 178 | 51 => 151 | n => n, fun | 1 => 0 | 3 => 4 | 4 => 5 | n => n⟩
theorem Tryz.split : Go.Proofs.Lays.n146 Tryz.prog Tryz.split_ren := {
  mixed := by kernel_rfl
  f138 := Tryz.func146.trans (congrArg some (by kernel_rfl))
  f143 := Tryz.func147.trans (congrArg some (by kernel_rfl))
  f146 := Tryz.func41.trans (congrArg some (by kernel_rfl))
  f195 := Tryz.func164.trans (congrArg some (by kernel_rfl))
  f197 := Tryz.func165.trans (congrArg some (by kernel_rfl))
  f217 := Tryz.func194.trans (congrArg some (by kernel_rfl))
  f218 := Tryz.func166.trans (congrArg some (by kernel_rfl))
  f219 := Tryz.func167.trans (congrArg some (by kernel_rfl))
  f221 := Tryz.func101.trans (congrArg some (by kernel_rfl))
  f224 := Tryz.func196.trans (congrArg some (by kernel_rfl))
  f225 := Tryz.func195.trans (congrArg some (by kernel_rfl))
  f260 := Tryz.func193.trans (congrArg some (by kernel_rfl))
  f266 := Tryz.func211.trans (congrArg some (by kernel_rfl))
  f267 := Tryz.func197.trans (congrArg some (by kernel_rfl))
  f268 := Tryz.func145.trans (congrArg some (by kernel_rfl))
  f314 := Tryz.func212.trans (congrArg some (by kernel_rfl))
  t0 := Tryz.underlying0
  a0 := Tryz.isAgg0
  z0 := Tryz.sizeOf0
  v0 := Tryz.zeroValue0
  t3 := Tryz.underlying3
  a3 := Tryz.isAgg3
  z3 := Tryz.sizeOf3
  v3 := Tryz.zeroValue3
  t4 := Tryz.underlying4
  a4 := Tryz.isAgg4
  z4 := Tryz.sizeOf4
  v4 := Tryz.zeroValue4
  t5 := Tryz.underlying5
  a5 := Tryz.isAgg5
  z5 := Tryz.sizeOf5
  v5 := Tryz.zeroValue5
  t9 := Tryz.underlying9
  a9 := Tryz.isAgg9
  z9 := Tryz.sizeOf9
  v9 := Tryz.zeroValue9
  t21 := Tryz.underlying21
  a21 := Tryz.isAgg21
  z21 := Tryz.sizeOf21
  v21 := Tryz.zeroValue21
  t31 := Tryz.underlying34
  a31 := Tryz.isAgg34
  z31 := Tryz.sizeOf34
  v31 := Tryz.zeroValue34
  t46 := Tryz.underlying124
  a46 := Tryz.isAgg124
  z46 := Tryz.sizeOf124
  v46 := Tryz.zeroValue124
  t51 := Tryz.underlying151
  a51 := Tryz.isAgg151
  z51 := Tryz.sizeOf151
  v51 := Tryz.zeroValue151
  t105 := Tryz.underlying133
  a105 := Tryz.isAgg133
  z105 := Tryz.sizeOf133
  v105 := Tryz.zeroValue133
  t119 := Tryz.underlying174
  a119 := Tryz.isAgg174
  z119 := Tryz.sizeOf174
  t138 := Tryz.underlying176
  a138 := Tryz.isAgg176
  z138 := Tryz.sizeOf176
  v138 := Tryz.zeroValue176
  t139 := Tryz.underlying177
  a139 := Tryz.isAgg177
  z139 := Tryz.sizeOf177
  v139 := Tryz.zeroValue177
  t146 := Tryz.underlying178
  a146 := Tryz.isAgg178
  z146 := Tryz.sizeOf178
  v146 := Tryz.zeroValue178
  g1 := by kernel_rfl
  g3 := by kernel_rfl
  g4 := by kernel_rfl }
def Tryz.atoi_ren : Go.Shelf.Ren := ⟨fun | 172 => 102 | 244 => 148 | 245 => 149 | 247 => 168 | 279 => 169 | 280 => 170 | 281 => 171 | 282 => 172 | 287 => 198 | 316 => 199 | 171 => 96 | 205 => 200 | 321 => 213 | 322 => 214 | 243 => 139 | 246 => 160 | 283 => 187 | 284 => 188 | 285 => 189 | 286 => 190 | 129 => 186 | 317 => 207 | 318 => 208 | 319 => 209 | 320 => 210 | 337 => 216 | 338 => 217 | n => n, fun | 9 => 9 | 3 => 3 | 75 => 98 | 76 => 99 | 4 => 4 | 5 => 5 | 167 => 136 | 37 => 22 | 0 => 0 | 85 => 137 | 2 => 2 | 168 => 139 | 53 => 59 | 175 => 160 | 46 => 124 | 210 => 163 | 127 => 132 | 145 => 183 | 143 => 181 | 21 => 21 | 171 => 153 | 173 => 155 | 212 => 172 | 51 => 151 | 20 => 20 | 213 => 173 | 232 => 187 | 233 => 188 | 80 => 77 | n => n, fun | 15 => 1 | 16 => 2 | 17 => 3 | 18 => 6 | 19 => 7 | n => n⟩
theorem Tryz.atoi : Go.Proofs.LaysC.n172 Tryz.prog Tryz.atoi_ren := {
  mixed := by kernel_rfl
  f129 := Tryz.func186.trans (congrArg some (by kernel_rfl))
  f171 := Tryz.func96.trans (congrArg some (by kernel_rfl))
  f172 := Tryz.func102.trans (congrArg some (by kernel_rfl))
  f205 := Tryz.func200.trans (congrArg some (by kernel_rfl))
  f243 := Tryz.func139.trans (congrArg some (by kernel_rfl))
  f244 := Tryz.func148.trans (congrArg some (by kernel_rfl))
  f245 := Tryz.func149.trans (congrArg some (by kernel_rfl))
  f246 := Tryz.func160.trans (congrArg some (by kernel_rfl))
  f247 := Tryz.func168.trans (congrArg some (by kernel_rfl))
  f279 := Tryz.func169.trans (congrArg some (by kernel_rfl))
  f280 := Tryz.func170.trans (congrArg some (by kernel_rfl))
  f281 := Tryz.func171.trans (congrArg some (by kernel_rfl))
  f282 := Tryz.func172.trans (congrArg some (by kernel_rfl))
  f283 := Tryz.func187.trans (congrArg some (by kernel_rfl))
  f284 := Tryz.func188.trans (congrArg some (by kernel_rfl))
  f285 := Tryz.func189.trans (congrArg some (by kernel_rfl))
  f286 := Tryz.func190.trans (congrArg some (by kernel_rfl))
  f287 := Tryz.func198.trans (congrArg some (by kernel_rfl))
  f316 := Tryz.func199.trans (congrArg some (by kernel_rfl))
  f317 := Tryz.func207.trans (congrArg some (by kernel_rfl))
  f318 := Tryz.func208.trans (congrArg some (by kernel_rfl))
  f319 := Tryz.func209.trans (congrArg some (by kernel_rfl))
  f320 := Tryz.func210.trans (congrArg some (by kernel_rfl))
  f321 := Tryz.func213.trans (congrArg some (by kernel_rfl))
  f322 := Tryz.func214.trans (congrArg some (by kernel_rfl))
  f337 := Tryz.func216.trans (congrArg some (by kernel_rfl))
  f338 := Tryz.func217.trans (congrArg some (by kernel_rfl))
  t0 := Tryz.underlying0
  a0 := Tryz.isAgg0
  z0 := Tryz.sizeOf0
  v0 := Tryz.zeroValue0
  t2 := Tryz.underlying2
  a2 := Tryz.isAgg2
  z2 := Tryz.sizeOf2
  v2 := Tryz.zeroValue2
  t3 := Tryz.underlying3
  a3 := Tryz.isAgg3
  z3 := Tryz.sizeOf3
  v3 := Tryz.zeroValue3
  t4 := Tryz.underlying4
  a4 := Tryz.isAgg4
  z4 := Tryz.sizeOf4
  v4 := Tryz.zeroValue4
  t5 := Tryz.underlying5
  a5 := Tryz.isAgg5
  z5 := Tryz.sizeOf5
  v5 := Tryz.zeroValue5
  t9 := Tryz.underlying9
  a9 := Tryz.isAgg9
  z9 := Tryz.sizeOf9
  v9 := Tryz.zeroValue9
  t20 := Tryz.underlying20
  a20 := Tryz.isAgg20
  z20 := Tryz.sizeOf20
  v20 := Tryz.zeroValue20
  t21 := Tryz.underlying21
  a21 := Tryz.isAgg21
  z21 := Tryz.sizeOf21
  v21 := Tryz.zeroValue21
  t37 := Tryz.underlying22
  a37 := Tryz.isAgg22
  z37 := Tryz.sizeOf22
  v37 := Tryz.zeroValue22
  t46 := Tryz.underlying124
  a46 := Tryz.isAgg124
  z46 := Tryz.sizeOf124
  v46 := Tryz.zeroValue124
  t51 := Tryz.underlying151
  a51 := Tryz.isAgg151
  z51 := Tryz.sizeOf151
  v51 := Tryz.zeroValue151
  t53 := Tryz.underlying59
  a53 := Tryz.isAgg59
  z53 := Tryz.sizeOf59
  v53 := Tryz.zeroValue59
  t75 := Tryz.underlying98
  a75 := Tryz.isAgg98
  z75 := Tryz.sizeOf98
  v75 := Tryz.zeroValue98
  t76 := Tryz.underlying99
  a76 := Tryz.isAgg99
  z76 := Tryz.sizeOf99
  v76 := Tryz.zeroValue99
  t85 := Tryz.underlying137
  a85 := Tryz.isAgg137
  z85 := Tryz.sizeOf137
  v85 := Tryz.zeroValue137
  t127 := Tryz.underlying132
  a127 := Tryz.isAgg132
  z127 := Tryz.sizeOf132
  v127 := Tryz.zeroValue132
  t143 := Tryz.underlying181
  a143 := Tryz.isAgg181
  z143 := Tryz.sizeOf181
  v143 := Tryz.zeroValue181
  t145 := Tryz.underlying183
  a145 := Tryz.isAgg183
  z145 := Tryz.sizeOf183
  v145 := Tryz.zeroValue183
  t167 := Tryz.underlying136
  a167 := Tryz.isAgg136
  z167 := Tryz.sizeOf136
  v167 := Tryz.zeroValue136
  t168 := Tryz.underlying139
  a168 := Tryz.isAgg139
  z168 := Tryz.sizeOf139
  v168 := Tryz.zeroValue139
  t171 := Tryz.underlying153
  a171 := Tryz.isAgg153
  z171 := Tryz.sizeOf153
  v171 := Tryz.zeroValue153
  t173 := Tryz.underlying155
  a173 := Tryz.isAgg155
  z173 := Tryz.sizeOf155
  v173 := Tryz.zeroValue155
  t175 := Tryz.underlying160
  a175 := Tryz.isAgg160
  z175 := Tryz.sizeOf160
  v175 := Tryz.zeroValue160
  t210 := Tryz.underlying163
  a210 := Tryz.isAgg163
  z210 := Tryz.sizeOf163
  v210 := Tryz.zeroValue163
  t212 := Tryz.underlying172
  a212 := Tryz.isAgg172
  z212 := Tryz.sizeOf172
  v212 := Tryz.zeroValue172
  t213 := Tryz.underlying173
  a213 := Tryz.isAgg173
  z213 := Tryz.sizeOf173
  t232 := Tryz.underlying187
  a232 := Tryz.isAgg187
  z232 := Tryz.sizeOf187
  v232 := Tryz.zeroValue187
  t233 := Tryz.underlying188
  a233 := Tryz.isAgg188
  z233 := Tryz.sizeOf188
  v233 := Tryz.zeroValue188
  g15 := by kernel_rfl
  g16 := by kernel_rfl
  g17 := by kernel_rfl
  g18 := by kernel_rfl
  g19 := by kernel_rfl
  t80 := Tryz.underlying77
  a80 := Tryz.isAgg77
  z80 := Tryz.sizeOf77
  v80 := Tryz.zeroValue77
  i0 := by kernel_rfl
  i2 := by kernel_rfl
  i3 := by kernel_rfl
  i4 := by kernel_rfl
  i5 := by kernel_rfl
  i9 := by kernel_rfl
  i20 := by kernel_rfl
  i21 := by kernel_rfl
  i37 := by kernel_rfl
  i46 := by kernel_rfl
  i51 := by kernel_rfl
  i53 := by kernel_rfl
  i75 := by kernel_rfl
  i76 := by kernel_rfl
  i80 := by kernel_rfl
  i85 := by kernel_rfl
  i127 := by kernel_rfl
  i143 := by kernel_rfl
  i145 := by kernel_rfl
  i167 := by kernel_rfl
  i168 := by kernel_rfl
  i171 := by kernel_rfl
  i173 := by kernel_rfl
  i175 := by kernel_rfl
  i210 := by kernel_rfl
  i212 := by kernel_rfl
  i232 := by kernel_rfl
  i233 := by kernel_rfl
  m15 := by kernel_rfl
  m16 := by kernel_rfl
  m17 := by kernel_rfl
  m18 := by kernel_rfl
  m19 := by kernel_rfl
  c0 := by kernel_rfl
  c2 := by kernel_rfl
  c3 := by kernel_rfl
  c4 := by kernel_rfl
  c5 := by kernel_rfl
  c9 := by kernel_rfl
  c20 := by kernel_rfl
  c21 := by kernel_rfl
  c37 := by kernel_rfl
  c46 := by kernel_rfl
  c51 := by kernel_rfl
  c53 := by kernel_rfl
  c75 := by kernel_rfl
  c76 := by kernel_rfl
  c80 := by kernel_rfl
  c85 := by kernel_rfl
  c127 := by kernel_rfl
  c143 := by kernel_rfl
  c145 := by kernel_rfl
  c167 := by kernel_rfl
  c168 := by kernel_rfl
  c171 := by kernel_rfl
  c173 := by kernel_rfl
  c175 := by kernel_rfl
  c210 := by kernel_rfl
  c212 := by kernel_rfl
  c213 := by kernel_rfl
  c232 := by kernel_rfl
  c233 := by kernel_rfl }
end Go.Proofs

set_option linter.unusedVariables false
set_option linter.unusedSimpArgs false
set_option maxRecDepth 100000
namespace Go.Proofs.YtmlmmgeadombbaaGreatDoor
open Go Go.AV Go.M
attribute [local irreducible] OpW OpA OpS AWP FSpec ESpec GSpec OpE RetOk RetOkG RvDen Le Ev GuardIs SrcIs Int.tmod Int.tdiv IntKind.wrap
def readW (w : World) : Prop := tabW w ∧ (∃ m, w.cell? ⟨0, 0, none⟩ = some (.int .i64 m)) ∧ (∃ tp p, w.var? Tryz.prog "strconv.ErrSyntax" = some #[.iface tp p]) ∧ (∃ tp p, w.var? Tryz.prog "strconv.ErrRange" = some #[.iface tp p])
theorem readW_heap {W w' : World} (h : readW W) (hw : RLe (heapR W) w') : readW w' :=
  let ⟨h1, ⟨m, h2⟩, ⟨t3, p3, h3⟩, ⟨t4, p4, h4⟩⟩ := h
  ⟨tabW_heap h1 hw, ⟨m, cell_heap h2 hw⟩, ⟨t3, p3, var_heap h3 hw⟩, ⟨t4, p4, var_heap h4 hw⟩⟩
theorem split_spec (s : Str) (c : UInt8) (hs : s.length ≤ 1048576) : FSpec Tryz.prog 41 [AV.wt readW (AV.str s), AV.str [c]] (strs (splitC c s)) := by
  have hsz : (ByteArray.mk s.toArray).size = s.length := size_mk s
  have hle := Lib.countB_le ⟨#[c]⟩ (Nat.le_refl 1) _ ⟨s.toArray⟩ (Nat.le_refl _)
  have hlen := Lib.splitB_all ⟨#[c]⟩ (Nat.le_refl 1) 0 _ ⟨s.toArray⟩ rfl
  refine fspec_of_gspec (pieces_own (T := readW) (t := 9) (s := s) (c := c) (ps := Lib.splitB ⟨#[c]⟩ 0 (Lib.countB ⟨s.toArray⟩ ⟨#[c]⟩) ⟨s.toArray⟩) ?_ ?_ fun w hT => ?_) fun v _ => lt_arr (List.mem_singleton.2 rfl) le_refl_e
  · rw [Lib.splitB_data]
    show Lib.splitK [c] 0 (Lib.count s [c]) s = _
    rw [Lib.count_one]
    exact split_rec c s _ rfl
  · rw [hlen]; unfold maxLen; omega
  · obtain ⟨_, ⟨m, hm⟩, _⟩ := hT
    refine (Any.strings_Split Tryz.split (by kernel_rfl) ⟨s.toArray⟩ ⟨#[c]⟩ m w (by rw [hsz]; omega) hm (Nat.le_refl 1)).mono fun e w' ⟨e1, e2⟩ => ?_
    rw [hlen]
    exact ⟨e1, e2⟩
theorem atoi_spec (s : Str) (hs : s.length ≤ 1048576) : FSpec Tryz.prog 102 [AV.wt readW (AV.str s)] (AV.tup [AV.int (atoiV s), AV.errB (atoiBad s)]) :=
  fspec_wt fun R w v hr hx hT => by
    have hsz : (ByteArray.mk s.toArray).size = s.length := size_mk s
    obtain ⟨_, _, ⟨t3, p3, h3⟩, ⟨t4, p4, h4⟩⟩ := hT
    rw [show v = Value.string ⟨s.toArray⟩ from hx]
    rcases ha : Lib.atoiAll s with n | _ | _
    · have e1 : atoiV s = n := by unfold atoiV; rw [ha]
      have e2 : atoiBad s = false := by unfold atoiBad; rw [ha]
      rw [e1, e2]
      refine (Any.strconv_Atoi_ok Tryz.atoi ⟨s.toArray⟩ (by rw [hsz]; omega) n ha w).mono ?_
      rintro e w' ⟨rfl, hw⟩
      exact ⟨_, rfl, ⟨_, rfl, DenV.cons rfl (DenV.cons ⟨fun _ => rfl, fun h => (by cases h)⟩ (DenV.nil _))⟩, by (rcases hw with rfl | ⟨t, rfl⟩); exact below_same _; exact below_bytes _ _ _⟩
    · have e1 : atoiV s = 0 := by unfold atoiV; rw [ha]
      have e2 : atoiBad s = true := by unfold atoiBad; rw [ha]
      rw [e1, e2]
      refine (Any.strconv_Atoi_syntax_var Tryz.atoi ⟨s.toArray⟩ (by rw [hsz]; omega) ha t3 p3 w h3).mono ?_
      rintro e w' ⟨N, rfl, _, _, hb⟩
      exact ⟨_, rfl, ⟨_, rfl, DenV.cons rfl (DenV.cons ⟨fun h => (by cases h), fun _ => ⟨_, _, rfl⟩⟩ (DenV.nil _))⟩, hb⟩
    · have e1 : atoiV s = Lib.atoiSat s := by unfold atoiV; rw [ha]
      have e2 : atoiBad s = true := by unfold atoiBad; rw [ha]
      rw [e1, e2]
      refine (Any.strconv_Atoi_range_var Tryz.atoi ⟨s.toArray⟩ (by rw [hsz]; omega) ha t4 p4 w h4).mono ?_
      rintro e w' ⟨N, rfl, _, _, hb⟩
      exact ⟨_, rfl, ⟨_, rfl, DenV.cons rfl (DenV.cons ⟨fun h => (by cases h), fun _ => ⟨_, _, rfl⟩⟩ (DenV.nil _))⟩, hb⟩
end Go.Proofs.YtmlmmgeadombbaaGreatDoor

set_option linter.unusedVariables false
set_option linter.unusedSimpArgs false
set_option maxRecDepth 100000
set_option maxHeartbeats 1000000
namespace Go.M
open Go.AV
theorem atoiV_rng (s : Str) : -9223372036854775808 ≤ atoiV s ∧ atoiV s ≤ 9223372036854775807 := by
  unfold atoiV
  split
  · rename_i h; exact Lib.atoiAll_bounds h
  · unfold Lib.atoiSat; split <;> omega
  · omega
theorem bad_cons (b : UInt8) (r : Str) : l1BadB (b :: r) = (!within ((b :: r).length : Nat) 1 6 || (((b.toNat : Int) == 48) && decide ((1 : Int) < ((b :: r).length : Nat)))) := by
  unfold l1BadB
  have : (b == 48) = ((b.toNat : Int) == 48) := by
    by_cases h : b = 48
    · subst h; rfl
    · have h2 : b.toNat ≠ 48 := fun e => h (UInt8.toNat_inj.1 e)
      have h3 : (b == 48) = false := by simpa using h
      rw [h3]; symm; simp; omega
  simp [this]
theorem dig_val {x : UInt8} (h : 48 ≤ x.toNat ∧ x.toNat ≤ 57) : IntKind.i64.wrap (IntKind.u8.wrap ((x.toNat : Int) - 48)) = ((x.toNat - 48 : Nat) : Int) := by
  have e : IntKind.u8.wrap ((x.toNat : Int) - 48) = ((x.toNat - 48 : Nat) : Int) := by
    simp [IntKind.wrap, IntKind.bits, IntKind.signed]; omega
  rw [e, in64 (by omega)]
theorem rd_next {n i : Nat} {s : Str} {x : UInt8} (hx : s[i]? = some x) (h : 48 ≤ x.toNat ∧ x.toNat ≤ 57) : rdFrom n (s.drop i) = rdFrom (10 * n + (x.toNat - 48)) (s.drop (i + 1)) := by
  have hlt := (List.getElem?_eq_some_iff.1 hx).1
  rw [List.drop_eq_getElem_cons hlt, (List.getElem?_eq_some_iff.1 hx).2]
  conv => lhs; unfold rdFrom
  rw [if_pos (by unfold isDig; simp; omega)]
theorem rd_stop {n i : Nat} {s : Str} {x : UInt8} (hx : s[i]? = some x) (h : x.toNat < 48 ∨ 57 < x.toNat) : rdFrom n (s.drop i) = -1 := by
  have hlt := (List.getElem?_eq_some_iff.1 hx).1
  rw [List.drop_eq_getElem_cons hlt, (List.getElem?_eq_some_iff.1 hx).2]
  conv => lhs; unfold rdFrom
  rw [if_neg (by unfold isDig; simp; omega)]
theorem pow6 {i : Nat} (h : i ≤ 6) : 10 ^ i ≤ 1000000 := Nat.pow_le_pow_right (by decide) h
theorem pow_nx {n i d : Nat} (h : n + 1 ≤ 10 ^ i) (hd : d ≤ 9) : (10 * n + d) + 1 ≤ 10 ^ (i + 1) := by rw [Nat.pow_succ]; omega
end Go.M
namespace Go.Proofs.YtmlmmgeadombbaaGreatDoor
open Go Go.AV Go.M
attribute [local irreducible] OpW OpA OpS AWP FSpec ESpec GSpec OpE RetOk RetOkG RvDen Le Ev GuardIs SrcIs Int.tmod Int.tdiv IntKind.wrap
theorem readInt_spec (s : Str) (lo hi : Int) (hs : s.length ≤ 1048576) : FSpec Tryz.prog 46 [AV.wt readW (AV.str s), AV.int lo, AV.int hi] (AV.tup [AV.int (readI s lo hi).1, AV.bool (readI s lo hi).2]) := by
  refine spec_of_awp Tryz.func46 rfl Tryz.ntmps46 rfl ?_
  refine AWP.le (le_tab (t := 0) rfl) ?_
  refine awp_seq ?_
  refine awp_region ?_
  refine sq_plain rfl rfl rfl (w_assign rfl ev_ci) ?_
  refine sq_plain rfl rfl rfl (w_assign rfl ev_cb) ?_
  refine sq_nil ?_
  refine awp_seq ?_
  refine awp_region ?_
  refine sq_plain rfl rfl rfl (w_move rfl (ev_tmp rfl)) ?_
  refine sq_plain rfl rfl rfl (w_callT 0 rfl rfl Tryz.call102 rfl (atoi_spec s hs) (evl_cons (ev_tmp rfl) evl_nil) (by first | exact fun _ h => h | exact fun _ h => h.1)) ?_
  refine sq_plain rfl rfl rfl (w_move rfl (ev_tmp rfl)) ?_
  refine sq_plain rfl rfl rfl (w_extract rfl (ev_tmp rfl) rfl) ?_
  refine sq_plain rfl rfl rfl (w_extract rfl (ev_tmp rfl) rfl) ?_
  refine sq_plain rfl rfl rfl (w_assign rfl (ev_tmp rfl)) ?_
  refine sq_plain rfl rfl rfl (w_assign rfl (ev_tmp rfl)) ?_
  refine sq_nil ?_
  refine awp_seq ?_
  refine awp_seq ?_
  refine awp_region ?_
  refine sq_plain rfl rfl rfl (w_move rfl (ev_tmp rfl)) ?_
  refine sq_plain rfl rfl rfl (w_errneq rfl (by kernel_rfl) (ev_tmp rfl)) ?_
  refine sq_plain rfl rfl rfl (w_move rfl (ev_tmp rfl)) ?_
  refine sq_grd rfl rfl (guard_f rfl rfl rfl) (fun hc => w_move rfl (ev_tmp rfl)) ?_
  refine sq_grd rfl rfl (guard_f rfl rfl rfl) (fun hc => w_move rfl (ev_tmp rfl)) ?_
  refine sq_grd rfl rfl (guard_f rfl rfl rfl) (fun hc => w_move rfl (ev_tmp rfl)) ?_
  refine sq_grd rfl rfl (guard_f rfl rfl rfl) (fun hc => w_call rfl Tryz.call62 rfl (within_spec _ _ _) (evl_cons (ev_whn rfl hc) (evl_cons (ev_whn rfl hc) (evl_cons (ev_whn rfl hc) evl_nil)))) ?_
  refine sq_grd rfl rfl (guard_f rfl rfl rfl) (fun hc => w_not rfl (ev_whn rfl hc)) ?_
  refine sq_plain rfl rfl rfl (w_or rfl (ev_tmp rfl) (evif_w rfl)) ?_
  refine sq_plain rfl rfl rfl (w_move rfl (ev_tmp rfl)) ?_
  refine sq_grd rfl rfl (guard_f rfl rfl rfl) (fun hc => w_move rfl (ev_tmp rfl)) ?_
  refine sq_grd rfl rfl (guard_f rfl rfl rfl) (fun hc => w_callT 0 rfl rfl Tryz.call96 rfl (itoa_spec (atoiV s) (atoiV_rng s)) (evl_cons (ev_whn rfl hc) evl_nil) (by first | exact fun _ h => h | exact fun _ h => h.1)) ?_
  refine sq_grd rfl rfl (guard_f rfl rfl rfl) (fun hc => w_move rfl (ev_tmp rfl)) ?_
  refine sq_grd rfl rfl (guard_f rfl rfl rfl) (fun hc => w_sneq rfl (ev_whn rfl hc) (ev_whn rfl hc)) ?_
  refine sq_plain rfl rfl rfl (w_or rfl (ev_tmp rfl) (evif_w rfl)) ?_
  refine sq_nil ?_
  refine awp_cond (ev_tmp rfl) ?_ ?_
  · intro h29
    have he : readI s lo hi = (0, false) := if_pos h29
    rw [he]
    refine awp_seq ?_
    refine awp_region ?_
    refine sq_plain rfl rfl rfl (w_assign rfl ev_ci) ?_
    refine sq_plain rfl rfl rfl (w_assign rfl ev_cb) ?_
    refine sq_nil ?_
    refine awp_ret ?_
    exact retN rfl (by decide) (rv_cons (rv_tmp' rfl (by rfl)) (rv_cons (rv_tmp' rfl (by rfl)) rv_nil))
  · intro h29
    have he : readI s lo hi = (atoiV s, true) := if_neg (by rw [h29]; decide)
    rw [he]
    refine awp_skip ?_
    refine awp_seq ?_
    refine awp_region ?_
    refine sq_plain rfl rfl rfl (w_move rfl (ev_tmp rfl)) ?_
    refine sq_plain rfl rfl rfl (w_assign rfl (ev_tmp rfl)) ?_
    refine sq_plain rfl rfl rfl (w_assign rfl ev_cb) ?_
    refine sq_nil ?_
    refine awp_ret ?_
    exact retN rfl (by decide) (rv_cons (rv_tmp' rfl (by rfl)) (rv_cons (rv_tmp' rfl (by rfl)) rv_nil))
theorem l1Read_nil : FSpec Tryz.prog 86 [AV.str []] (AV.int (l1R [])) := by
  refine spec_of_awp Tryz.func86 rfl Tryz.ntmps86 rfl ?_
  refine awp_seq ?_
  refine awp_region ?_
  refine sq_plain rfl rfl rfl (w_assign rfl ev_ci) ?_
  refine sq_nil ?_
  refine awp_seq ?_
  refine awp_seq ?_
  refine awp_region ?_
  refine sq_plain rfl rfl rfl (w_move rfl (ev_tmp rfl)) ?_
  refine sq_plain rfl rfl rfl (w_slen rfl Tryz.underlying9 (ev_tmp rfl)) ?_
  refine sq_plain rfl rfl rfl (w_call rfl Tryz.call109 rfl (l1In_spec _ _ _) (evl_cons (ev_tmp rfl) (evl_cons ev_ci (evl_cons ev_ci evl_nil)))) ?_
  refine sq_plain rfl rfl rfl (w_not rfl (ev_tmp rfl)) ?_
  refine sq_plain rfl rfl rfl (w_move rfl (ev_tmp rfl)) ?_
  refine sq_grd rfl rfl (guard_f rfl rfl rfl) (fun hc => w_move rfl (ev_tmp rfl)) ?_
  refine sq_grd rfl rfl (guard_f rfl rfl rfl) (fun hc => (show OpW _ _ _ _ _ _ (AV.byte 0) from (by exfalso; revert hc; decide))) ?_
  refine sq_grd rfl rfl (guard_f rfl rfl rfl) (fun hc => w_eql rfl (ev_whn rfl hc) ev_ci) ?_
  refine sq_grd rfl rfl (guard_f rfl rfl rfl) (fun hc => w_move rfl (ev_whn rfl hc)) ?_
  refine sq_grd rfl rfl (guard_wt rfl rfl rfl) (fun hc => w_move rfl (ev_tmp rfl)) ?_
  refine sq_grd rfl rfl (guard_wt rfl rfl rfl) (fun hc => w_slen rfl Tryz.underlying9 (ev_whn rfl hc)) ?_
  refine sq_grd rfl rfl (guard_wt rfl rfl rfl) (fun hc => w_gtr rfl (ev_whn rfl hc) ev_ci) ?_
  refine sq_grd rfl rfl (guard_f rfl rfl rfl) (fun hc => w_and rfl (ev_whn rfl hc) (evif_w2 rfl hc)) ?_
  refine sq_plain rfl rfl rfl (w_or rfl (ev_tmp rfl) (evif_w rfl)) ?_
  refine sq_nil ?_
  refine awp_cond (ev_tmp rfl) ?_ ?_
  · intro h18
    refine awp_seq ?_
    refine awp_region ?_
    refine sq_plain rfl rfl rfl (w_assign rfl ev_ci) ?_
    refine sq_nil ?_
    refine awp_ret ?_
    exact retR rfl (rv_tmp' rfl (by rfl))
  · intro h18
    exfalso; revert h18; decide
theorem l1Read_cons (b : UInt8) (r : Str) (hs : (b :: r).length ≤ 1048576) : FSpec Tryz.prog 86 [AV.str (b :: r)] (AV.int (l1R (b :: r))) := by
  have hb0 : (b :: r)[0]? = some b := rfl
  obtain ⟨s, hse⟩ : ∃ s, b :: r = s := ⟨_, rfl⟩
  have hbad := bad_cons b r
  rw [hse] at hs hb0 hbad ⊢
  refine spec_of_awp Tryz.func86 rfl Tryz.ntmps86 rfl ?_
  refine awp_seq ?_
  refine awp_region ?_
  refine sq_plain rfl rfl rfl (w_assign rfl ev_ci) ?_
  refine sq_nil ?_
  refine awp_seq ?_
  refine awp_seq ?_
  refine awp_region ?_
  refine sq_plain rfl rfl rfl (w_move rfl (ev_tmp rfl)) ?_
  refine sq_plain rfl rfl rfl (w_slen rfl Tryz.underlying9 (ev_tmp rfl)) ?_
  refine sq_plain rfl rfl rfl (w_call rfl Tryz.call109 rfl (l1In_spec _ _ _) (evl_cons (ev_tmp rfl) (evl_cons ev_ci (evl_cons ev_ci evl_nil)))) ?_
  refine sq_plain rfl rfl rfl (w_not rfl (ev_tmp rfl)) ?_
  refine sq_plain rfl rfl rfl (w_move rfl (ev_tmp rfl)) ?_
  refine sq_grd rfl rfl (guard_f rfl rfl rfl) (fun hc => w_move rfl (ev_tmp rfl)) ?_
  refine sq_grd rfl rfl (guard_f rfl rfl rfl) (fun hc => w_sidx rfl Tryz.underlying9 (ev_whn rfl hc) ev_ci (by have := (List.getElem?_eq_some_iff.1 hb0).1; omega) hb0) ?_
  refine sq_grd rfl rfl (guard_f rfl rfl rfl) (fun hc => w_eql rfl (ev_whn rfl hc) ev_ci) ?_
  refine sq_grd rfl rfl (guard_f rfl rfl rfl) (fun hc => w_move rfl (ev_whn rfl hc)) ?_
  refine sq_grd rfl rfl (guard_wt rfl rfl rfl) (fun hc => w_move rfl (ev_tmp rfl)) ?_
  refine sq_grd rfl rfl (guard_wt rfl rfl rfl) (fun hc => w_slen rfl Tryz.underlying9 (ev_whn rfl hc)) ?_
  refine sq_grd rfl rfl (guard_wt rfl rfl rfl) (fun hc => w_gtr rfl (ev_whn rfl hc) ev_ci) ?_
  refine sq_grd rfl rfl (guard_f rfl rfl rfl) (fun hc => w_and rfl (ev_whn rfl hc) (evif_w2 rfl hc)) ?_
  refine sq_plain rfl rfl rfl (w_or rfl (ev_tmp rfl) (evif_w rfl)) ?_
  refine sq_nil ?_
  refine awp_cond (ev_tmp rfl) ?_ ?_
  · intro h18
    have he : l1R s = -1 := if_pos (by rw [hbad]; exact h18)
    rw [he]
    refine awp_seq ?_
    refine awp_region ?_
    refine sq_plain rfl rfl rfl (w_assign rfl ev_ci) ?_
    refine sq_nil ?_
    refine awp_ret ?_
    exact retR rfl (rv_tmp' rfl (by rfl))
  · intro h18
    have he : l1R s = rdFrom 0 s := if_neg (by rw [hbad, h18]; decide)
    rw [he]
    have hl6 : s.length ≤ 6 := (by simp only [Bool.or_eq_false_iff, Bool.not_eq_false'] at h18; have h9 := h18.1; unfold within at h9; simp at h9; omega)
    refine awp_skip ?_
    refine awp_seq ?_
    refine awp_region ?_
    refine sq_plain rfl rfl rfl (w_assign rfl ev_ci) ?_
    refine sq_nil ?_
    refine awp_seq ?_
    refine awp_seq ?_
    refine awp_region ?_
    refine sq_plain rfl rfl rfl (w_assign rfl ev_ci) ?_
    refine sq_nil ?_
    refine awp_block ?_
    refine awp_loop_i2 [(0, _)] _ (fun (i : Nat) (n : Nat) => i ≤ s.length ∧ rdFrom 0 s = rdFrom n (s.drop i) ∧ n + 1 ≤ 10 ^ i) (fun (i : Nat) (n : Nat) => []) (fun (i : Nat) (n : Nat) => [(3, AV.int n), (4, AV.int i)]) (fun (i : Nat) (n : Nat) => s.length - i) (0) (0) ?_ (le_env ⟨rfl, rfl, rfl, trivial⟩) ?_
    · exact ⟨Nat.zero_le _, rfl, by decide⟩
    intro i n hinv
    have hp6 := pow6 (i := i) (by omega)
    have hn6 := hinv.2.2
    refine awp_seq ?_
    refine awp_seq ?_
    refine awp_region ?_
    refine sq_plain rfl rfl rfl (w_move rfl (ev_tmp rfl)) ?_
    refine sq_plain rfl rfl rfl (w_move rfl (ev_tmp rfl)) ?_
    refine sq_plain rfl rfl rfl (w_slen rfl Tryz.underlying9 (ev_tmp rfl)) ?_
    refine sq_plain rfl rfl rfl (w_lss rfl (ev_tmp rfl) (ev_tmp rfl)) ?_
    refine sq_nil ?_
    refine awp_cond (ev_tmp rfl) ?_ ?_
    · intro h22
      have k22 := of_decide_eq_true h22; try simp only [List.length_map] at k22
      obtain ⟨x, hx⟩ := get_some (show i < s.length by omega)
      refine awp_skip ?_
      refine awp_seq ?_
      refine awp_block ?_
      refine awp_seq ?_
      refine awp_seq ?_
      refine awp_region ?_
      refine sq_plain rfl rfl rfl (w_move rfl (ev_tmp rfl)) ?_
      refine sq_plain rfl rfl rfl (w_move rfl (ev_tmp rfl)) ?_
      refine sq_plain rfl rfl rfl (w_sidx rfl Tryz.underlying9 (ev_tmp rfl) (ev_tmp rfl) (by omega) hx) ?_
      refine sq_plain rfl rfl rfl (w_lss rfl (ev_tmp rfl) ev_ci) ?_
      refine sq_plain rfl rfl rfl (w_move rfl (ev_tmp rfl)) ?_
      refine sq_grd rfl rfl (guard_f rfl rfl rfl) (fun hc => w_move rfl (ev_tmp rfl)) ?_
      refine sq_grd rfl rfl (guard_f rfl rfl rfl) (fun hc => w_move rfl (ev_tmp rfl)) ?_
      refine sq_grd rfl rfl (guard_f rfl rfl rfl) (fun hc => w_sidx rfl Tryz.underlying9 (ev_whn rfl hc) (ev_whn rfl hc) (by omega) hx) ?_
      refine sq_grd rfl rfl (guard_f rfl rfl rfl) (fun hc => w_gtr rfl (ev_whn rfl hc) ev_ci) ?_
      refine sq_plain rfl rfl rfl (w_or rfl (ev_tmp rfl) (evif_w rfl)) ?_
      refine sq_nil ?_
      refine awp_cond (ev_tmp rfl) ?_ ?_
      · intro h34
        have hst := rd_stop (n := n) hx (by simp only [Bool.or_eq_true, decide_eq_true_eq] at h34; omega)
        rw [hinv.2.1, hst]
        refine awp_seq ?_
        refine awp_region ?_
        refine sq_plain rfl rfl rfl (w_assign rfl ev_ci) ?_
        refine sq_nil ?_
        refine awp_ret ?_
        exact retR rfl (rv_tmp' rfl (by rfl))
      · intro h34
        have hdig : 48 ≤ x.toNat ∧ x.toNat ≤ 57 := (by simp only [Bool.or_eq_false_iff, decide_eq_false_iff_not] at h34; omega)
        refine awp_skip ?_
        refine awp_region ?_
        refine sq_plain rfl rfl rfl (w_move rfl (ev_tmp rfl)) ?_
        refine sq_plain rfl rfl rfl (w_muli rfl ev_ci (ev_tmp rfl) (by first | omega | ((try simp only [List.length_map, List.length_take, List.length_cons, List.length_nil, chunks_len, szR] at *); omega) | (have hc2 := hc; simp only [Bool.and_eq_true, Bool.or_eq_true, Bool.or_eq_false_iff, Bool.and_eq_false_iff, Bool.not_eq_true', Bool.not_eq_false', decide_eq_true_eq, decide_eq_false_iff_not, beq_iff_eq, bne_iff_ne, List.length_map, List.length_take] at hc2; omega))) ?_
        refine sq_plain rfl rfl rfl (w_move rfl (ev_tmp rfl)) ?_
        refine sq_plain rfl rfl rfl (w_move rfl (ev_tmp rfl)) ?_
        refine sq_plain rfl rfl rfl (w_sidx rfl Tryz.underlying9 (ev_tmp rfl) (ev_tmp rfl) (by omega) hx) ?_
        refine sq_plain rfl rfl rfl (w_sub rfl (ev_tmp rfl) ev_ci) ?_
        refine sq_plain rfl rfl rfl (w_conv rfl (by kernel_rfl) Tryz.underlying3 (ev_tmp rfl)) ?_
        rw [dig_val hdig]
        refine sq_plain rfl rfl rfl (w_addi rfl (ev_tmp rfl) (ev_tmp rfl) (by first | omega | ((try simp only [List.length_map, List.length_take, List.length_cons, List.length_nil, chunks_len, szR] at *); omega) | (have hc2 := hc; simp only [Bool.and_eq_true, Bool.or_eq_true, Bool.or_eq_false_iff, Bool.and_eq_false_iff, Bool.not_eq_true', Bool.not_eq_false', decide_eq_true_eq, decide_eq_false_iff_not, beq_iff_eq, bne_iff_ne, List.length_map, List.length_take] at hc2; omega))) ?_
        refine sq_plain rfl rfl rfl (w_assign rfl (ev_tmp rfl)) ?_
        refine sq_nil ?_
        refine awp_region ?_
        refine sq_plain rfl rfl rfl (w_move rfl (ev_tmp rfl)) ?_
        refine sq_plain rfl rfl rfl (w_addi rfl (ev_tmp rfl) ev_ci (by first | omega | ((try simp only [List.length_map, List.length_take, List.length_cons, List.length_nil, chunks_len, szR] at *); omega) | (have hc2 := hc; simp only [Bool.and_eq_true, Bool.or_eq_true, Bool.or_eq_false_iff, Bool.and_eq_false_iff, Bool.not_eq_true', Bool.not_eq_false', decide_eq_true_eq, decide_eq_false_iff_not, beq_iff_eq, bne_iff_ne, List.length_map, List.length_take] at hc2; omega))) ?_
        refine sq_plain rfl rfl rfl (w_assign rfl (ev_tmp rfl)) ?_
        refine sq_nil ?_
        refine round_end2 i n (i + 1) (10 * n + (x.toNat - 48)) ?_ ?_ (le_env ⟨congrArg (fun z => some (AV.int z)) (by omega), rfl, rfl, trivial⟩)
        · exact ⟨by omega, hinv.2.1.trans (rd_next hx hdig), pow_nx hinv.2.2 (by omega)⟩
        · omega
    · intro h22
      have k22 := of_decide_eq_false h22; try simp only [List.length_map] at k22
      have hend : rdFrom 0 s = (n : Int) := (by rw [hinv.2.1, List.drop_of_length_le (by omega)]; rfl)
      rw [hend]
      refine awp_exit ?_
      refine awp_seq ?_
      refine awp_region ?_
      refine sq_plain rfl rfl rfl (w_move rfl (ev_tmp rfl)) ?_
      refine sq_plain rfl rfl rfl (w_assign rfl (ev_tmp rfl)) ?_
      refine sq_nil ?_
      refine awp_ret ?_
      exact retR rfl (rv_tmp' rfl (by rfl))
theorem l1Read_spec (s : Str) (hs : s.length ≤ 1048576) : FSpec Tryz.prog 86 [AV.str s] (AV.int (l1R s)) := by
  cases s with
  | nil => exact l1Read_nil
  | cons b r => exact l1Read_cons b r hs
theorem l1Split_spec (s : Str) (c : UInt8) (hs : s.length ≤ 1048576) : FSpec Tryz.prog 50 [AV.str s, AV.ik .u8 (c.toNat : Int)] (strs (splitC c s)) := by
  refine spec_of_awp Tryz.func50 rfl Tryz.ntmps50 rfl ?_
  refine awp_seq ?_
  refine awp_region ?_
  refine sq_plain rfl rfl rfl (w_assign rfl (ev_cnil (sz := 1))) ?_
  refine sq_nil ?_
  refine awp_seq ?_
  refine awp_region ?_
  refine sq_nilarr 9 1 rfl rfl rfl rfl ev_cnils ?_
  intro v5
  refine sq_nil ?_
  refine awp_seq ?_
  refine awp_region ?_
  refine sq_plain rfl rfl rfl (w_assign rfl ev_ci) ?_
  refine sq_nil ?_
  refine awp_seq ?_
  refine awp_seq ?_
  refine awp_region ?_
  refine sq_plain rfl rfl rfl (w_assign rfl ev_ci) ?_
  refine sq_nil ?_
  refine awp_block ?_
  refine awp_loop_i4 [(0, _), (1, _), (4, _)] _ (fun (i : Nat) (fr : Nat) (acc : List Str) (v : Value) => SpOk c s acc fr i) (fun (i : Nat) (fr : Nat) (acc : List Str) (v : Value) => [.arr v 9 1 (acc.map fun t => [AV.str t])]) (fun (i : Nat) (fr : Nat) (acc : List Str) (v : Value) => [(5, AV.is v), (6, AV.int fr), (7, AV.int i)]) (fun (i : Nat) (fr : Nat) (acc : List Str) (v : Value) => s.length - i) (0) (0) ([]) (v5) ?_ (le_eq (by rfl) ⟨rfl, rfl, rfl, rfl, rfl, rfl, trivial⟩) ?_
  · exact spOk_start c s
  intro i fr acc v hinv
  have hk1 := hinv.2.1
  have hk2 := hinv.2.2.1
  have hk3 := hinv.2.2.2
  refine awp_seq ?_
  refine awp_seq ?_
  refine awp_region ?_
  refine sq_plain rfl rfl rfl (w_move rfl (ev_tmp rfl)) ?_
  refine sq_plain rfl rfl rfl (w_move rfl (ev_tmp rfl)) ?_
  refine sq_plain rfl rfl rfl (w_slen rfl Tryz.underlying9 (ev_tmp rfl)) ?_
  refine sq_plain rfl rfl rfl (w_lss rfl (ev_tmp rfl) (ev_tmp rfl)) ?_
  refine sq_nil ?_
  refine awp_cond (ev_tmp rfl) ?_ ?_
  · intro h11
    have k11 := of_decide_eq_true h11; try simp only [List.length_map] at k11
    obtain ⟨x, hx⟩ := get_some (show i < s.length by omega)
    refine awp_skip ?_
    refine awp_seq ?_
    refine awp_block ?_
    refine awp_seq ?_
    refine awp_region ?_
    refine sq_plain rfl rfl rfl (w_move rfl (ev_tmp rfl)) ?_
    refine sq_plain rfl rfl rfl (w_move rfl (ev_tmp rfl)) ?_
    refine sq_plain rfl rfl rfl (w_sidx rfl Tryz.underlying9 (ev_tmp rfl) (ev_tmp rfl) (by omega) hx) ?_
    refine sq_plain rfl rfl rfl (w_move rfl (ev_tmp rfl)) ?_
    refine sq_plain rfl rfl rfl (w_eql rfl (ev_tmp rfl) (ev_tmp rfl)) ?_
    refine sq_nil ?_
    refine awp_cond (ev_tmp rfl) ?_ ?_
    · intro h18
      have k18 := eq_of_beqt h18; try simp only [List.length_map] at k18
      have hxc : s[i]? = some c := (by rw [hx]; congr 1; exact UInt8.toNat_inj.1 (by omega))
      refine awp_seq ?_
      refine awp_region ?_
      refine sq_plain rfl rfl rfl (w_move rfl (ev_tmp rfl)) ?_
      refine sq_plain rfl rfl rfl (w_move rfl (ev_tmp rfl)) ?_
      refine sq_plain rfl rfl rfl (w_move rfl (ev_tmp rfl)) ?_
      refine sq_plain rfl rfl rfl (w_move rfl (ev_tmp rfl)) ?_
      refine sq_plain rfl rfl rfl (w_ssl_lohi rfl Tryz.underlying9 (ev_tmp rfl) (ev_tmp rfl) (ev_tmp rfl) (by first | omega | ((try simp only [List.length_map, List.length_take, List.length_cons, List.length_nil, chunks_len, szR] at *); omega) | (have hc2 := hc; simp only [Bool.and_eq_true, Bool.or_eq_true, Bool.or_eq_false_iff, Bool.and_eq_false_iff, Bool.not_eq_true', Bool.not_eq_false', decide_eq_true_eq, decide_eq_false_iff_not, beq_iff_eq, bne_iff_ne, List.length_map, List.length_take] at hc2; omega)) (by first | omega | ((try simp only [List.length_map, List.length_take, List.length_cons, List.length_nil, chunks_len, szR] at *); omega) | (have hc2 := hc; simp only [Bool.and_eq_true, Bool.or_eq_true, Bool.or_eq_false_iff, Bool.and_eq_false_iff, Bool.not_eq_true', Bool.not_eq_false', decide_eq_true_eq, decide_eq_false_iff_not, beq_iff_eq, bne_iff_ne, List.length_map, List.length_take] at hc2; omega)) (by first | omega | ((try simp only [List.length_map, List.length_take, List.length_cons, List.length_nil, chunks_len, szR] at *); omega) | (have hc2 := hc; simp only [Bool.and_eq_true, Bool.or_eq_true, Bool.or_eq_false_iff, Bool.and_eq_false_iff, Bool.not_eq_true', Bool.not_eq_false', decide_eq_true_eq, decide_eq_false_iff_not, beq_iff_eq, bne_iff_ne, List.length_map, List.length_take] at hc2; omega))) ?_
      refine sq_plain rfl rfl rfl (w_bslice rfl Tryz.underlying34 Tryz.sizeOf9 Tryz.zeroValue9 rfl rfl rfl rfl (bp_cons (ev_tmp rfl) (as_str _) bp_nil) rfl rfl) ?_
      refine sq_append (by' := 16) 0 rfl rfl rfl rfl Tryz.underlying34 Tryz.type9 rfl rfl rfl rfl rfl rfl (ev_tmp rfl) (ev_tmp rfl) rfl (by first | omega | ((try simp only [List.length_map, List.length_take, List.length_cons, List.length_nil, chunks_len, szR] at *); omega) | (have hc2 := hc; simp only [Bool.and_eq_true, Bool.or_eq_true, Bool.or_eq_false_iff, Bool.and_eq_false_iff, Bool.not_eq_true', Bool.not_eq_false', decide_eq_true_eq, decide_eq_false_iff_not, beq_iff_eq, bne_iff_ne, List.length_map, List.length_take] at hc2; omega)) ?_
      intro v25_1
      refine sq_plain rfl rfl rfl (w_assign rfl (ev_tmp rfl)) ?_
      refine sq_nil ?_
      refine awp_region ?_
      refine sq_plain rfl rfl rfl (w_move rfl (ev_tmp rfl)) ?_
      refine sq_plain rfl rfl rfl (w_addi rfl (ev_tmp rfl) ev_ci (by first | omega | ((try simp only [List.length_map, List.length_take, List.length_cons, List.length_nil, chunks_len, szR] at *); omega) | (have hc2 := hc; simp only [Bool.and_eq_true, Bool.or_eq_true, Bool.or_eq_false_iff, Bool.and_eq_false_iff, Bool.not_eq_true', Bool.not_eq_false', decide_eq_true_eq, decide_eq_false_iff_not, beq_iff_eq, bne_iff_ne, List.length_map, List.length_take] at hc2; omega))) ?_
      refine sq_plain rfl rfl rfl (w_assign rfl (ev_tmp rfl)) ?_
      refine sq_nil ?_
      refine awp_region ?_
      refine sq_plain rfl rfl rfl (w_move rfl (ev_tmp rfl)) ?_
      refine sq_plain rfl rfl rfl (w_addi rfl (ev_tmp rfl) ev_ci (by first | omega | ((try simp only [List.length_map, List.length_take, List.length_cons, List.length_nil, chunks_len, szR] at *); omega) | (have hc2 := hc; simp only [Bool.and_eq_true, Bool.or_eq_true, Bool.or_eq_false_iff, Bool.and_eq_false_iff, Bool.not_eq_true', Bool.not_eq_false', decide_eq_true_eq, decide_eq_false_iff_not, beq_iff_eq, bne_iff_ne, List.length_map, List.length_take] at hc2; omega))) ?_
      refine sq_plain rfl rfl rfl (w_assign rfl (ev_tmp rfl)) ?_
      refine sq_nil ?_
      refine round_end4 i fr acc v (i + 1) (i + 1) (acc ++ [(s.take i).drop fr]) (v25_1) ?_ ?_ (le_eq (by first | rfl | (rw [List.map_append]; rfl)) ⟨rfl, rfl, rfl, rfl, rfl, rfl, trivial⟩)
      · exact spOk_hit hinv hxc
      · omega
    · intro h18
      have k18 := ne_of_beqf h18; try simp only [List.length_map] at k18
      have hxc : x ≠ c := (by intro e; subst e; simp at h18)
      refine awp_skip ?_
      refine awp_region ?_
      refine sq_plain rfl rfl rfl (w_move rfl (ev_tmp rfl)) ?_
      refine sq_plain rfl rfl rfl (w_addi rfl (ev_tmp rfl) ev_ci (by first | omega | ((try simp only [List.length_map, List.length_take, List.length_cons, List.length_nil, chunks_len, szR] at *); omega) | (have hc2 := hc; simp only [Bool.and_eq_true, Bool.or_eq_true, Bool.or_eq_false_iff, Bool.and_eq_false_iff, Bool.not_eq_true', Bool.not_eq_false', decide_eq_true_eq, decide_eq_false_iff_not, beq_iff_eq, bne_iff_ne, List.length_map, List.length_take] at hc2; omega))) ?_
      refine sq_plain rfl rfl rfl (w_assign rfl (ev_tmp rfl)) ?_
      refine sq_nil ?_
      refine round_end4 i fr acc v (i + 1) (fr) (acc) (v) ?_ ?_ (le_eq (by first | rfl | (rw [List.map_append]; rfl)) ⟨rfl, rfl, rfl, rfl, rfl, rfl, trivial⟩)
      · exact spOk_miss hinv hx hxc
      · omega
  · intro h11
    have k11 := of_decide_eq_false h11; try simp only [List.length_map] at k11
    have hend := spOk_end hinv (by omega)
    rw [hend]
    refine awp_exit ?_
    refine awp_seq ?_
    refine awp_region ?_
    refine sq_plain rfl rfl rfl (w_move rfl (ev_tmp rfl)) ?_
    refine sq_plain rfl rfl rfl (w_move rfl (ev_tmp rfl)) ?_
    refine sq_plain rfl rfl rfl (w_move rfl (ev_tmp rfl)) ?_
    refine sq_plain rfl rfl rfl (w_ssl_lo rfl Tryz.underlying9 (ev_tmp rfl) (ev_tmp rfl) (by first | omega | ((try simp only [List.length_map, List.length_take, List.length_cons, List.length_nil, chunks_len, szR] at *); omega) | (have hc2 := hc; simp only [Bool.and_eq_true, Bool.or_eq_true, Bool.or_eq_false_iff, Bool.and_eq_false_iff, Bool.not_eq_true', Bool.not_eq_false', decide_eq_true_eq, decide_eq_false_iff_not, beq_iff_eq, bne_iff_ne, List.length_map, List.length_take] at hc2; omega)) (by first | omega | ((try simp only [List.length_map, List.length_take, List.length_cons, List.length_nil, chunks_len, szR] at *); omega) | (have hc2 := hc; simp only [Bool.and_eq_true, Bool.or_eq_true, Bool.or_eq_false_iff, Bool.and_eq_false_iff, Bool.not_eq_true', Bool.not_eq_false', decide_eq_true_eq, decide_eq_false_iff_not, beq_iff_eq, bne_iff_ne, List.length_map, List.length_take] at hc2; omega))) ?_
    refine sq_plain rfl rfl rfl (w_bslice rfl Tryz.underlying34 Tryz.sizeOf9 Tryz.zeroValue9 rfl rfl rfl rfl (bp_cons (ev_tmp rfl) (as_str _) bp_nil) rfl rfl) ?_
    refine sq_append (by' := 16) 0 rfl rfl rfl rfl Tryz.underlying34 Tryz.type9 rfl rfl rfl rfl rfl rfl (ev_tmp rfl) (ev_tmp rfl) rfl (by first | omega | ((try simp only [List.length_map, List.length_take, List.length_cons, List.length_nil, chunks_len, szR] at *); omega) | (have hc2 := hc; simp only [Bool.and_eq_true, Bool.or_eq_true, Bool.or_eq_false_iff, Bool.and_eq_false_iff, Bool.not_eq_true', Bool.not_eq_false', decide_eq_true_eq, decide_eq_false_iff_not, beq_iff_eq, bne_iff_ne, List.length_map, List.length_take] at hc2; omega)) ?_
    intro v33_2
    refine sq_plain rfl rfl rfl (w_assign rfl (ev_tmp rfl)) ?_
    refine sq_nil ?_
    refine awp_ret ?_
    refine ret_seal 0 4 rfl rfl ?_
    exact retR rfl (rv_tmp' rfl (by first | rfl | (unfold strs; rw [List.map_append]; rfl)))
end Go.Proofs.YtmlmmgeadombbaaGreatDoor

set_option linter.unusedVariables false
set_option linter.unusedSimpArgs false
namespace Go.AV
section
variable {P : Program} {G : Nat → Prop} {n : Nat} {own : List Own} {o : Oper}
end
end Go.AV

set_option linter.unusedVariables false
set_option linter.unusedSimpArgs false
namespace Go.AV
open Go.RowKit (Below)
section
variable {P : Program} {G : Nat → Prop} {n : Nat} {own : List Own} {o : Oper} {E : EnvF}
end
end Go.AV

namespace Go.Proofs
open Go.Shelf
set_option linter.unusedVariables false
def Tryz.join_ren : Go.Shelf.Ren := ⟨fun | 156 => 97 | 165 => 140 | 166 => 141 | 169 => 142 | 240 => 161 | 241 => 162 | 276 => 191 | 277 => 192 | n => n, fun | 31 => 34 | 9 => 9 | 3 => 3 | 4 => 4 | 0 => 0 | 20 => 20 | 72 => 119 | 76 => 99 | 70 => 117 | 37 => 22 | 75 => 98 | 127 => 132 | 164 => 157 | 5 => 5 | 80 => 77 | n => n, fun | n => n⟩
theorem Tryz.join : Go.Proofs.Lays.n156 Tryz.prog Tryz.join_ren := {
  mixed := by kernel_rfl
  f156 := Tryz.func97.trans (congrArg some (by kernel_rfl))
  f165 := Tryz.func140.trans (congrArg some (by kernel_rfl))
  f166 := Tryz.func141.trans (congrArg some (by kernel_rfl))
  f169 := Tryz.func142.trans (congrArg some (by kernel_rfl))
  f240 := Tryz.func161.trans (congrArg some (by kernel_rfl))
  f241 := Tryz.func162.trans (congrArg some (by kernel_rfl))
  f276 := Tryz.func191.trans (congrArg some (by kernel_rfl))
  f277 := Tryz.func192.trans (congrArg some (by kernel_rfl))
  t0 := Tryz.underlying0
  a0 := Tryz.isAgg0
  z0 := Tryz.sizeOf0
  v0 := Tryz.zeroValue0
  t3 := Tryz.underlying3
  a3 := Tryz.isAgg3
  z3 := Tryz.sizeOf3
  v3 := Tryz.zeroValue3
  t4 := Tryz.underlying4
  a4 := Tryz.isAgg4
  z4 := Tryz.sizeOf4
  v4 := Tryz.zeroValue4
  t9 := Tryz.underlying9
  a9 := Tryz.isAgg9
  z9 := Tryz.sizeOf9
  v9 := Tryz.zeroValue9
  t20 := Tryz.underlying20
  a20 := Tryz.isAgg20
  z20 := Tryz.sizeOf20
  v20 := Tryz.zeroValue20
  t31 := Tryz.underlying34
  a31 := Tryz.isAgg34
  z31 := Tryz.sizeOf34
  v31 := Tryz.zeroValue34
  t37 := Tryz.underlying22
  a37 := Tryz.isAgg22
  z37 := Tryz.sizeOf22
  v37 := Tryz.zeroValue22
  t70 := Tryz.underlying117
  a70 := Tryz.isAgg117
  z70 := Tryz.sizeOf117
  v70 := Tryz.zeroValue117
  t72 := Tryz.underlying119
  a72 := Tryz.isAgg119
  z72 := Tryz.sizeOf119
  v72 := Tryz.zeroValue119
  t75 := Tryz.underlying98
  a75 := Tryz.isAgg98
  z75 := Tryz.sizeOf98
  v75 := Tryz.zeroValue98
  t76 := Tryz.underlying99
  a76 := Tryz.isAgg99
  z76 := Tryz.sizeOf99
  v76 := Tryz.zeroValue99
  t127 := Tryz.underlying132
  a127 := Tryz.isAgg132
  z127 := Tryz.sizeOf132
  v127 := Tryz.zeroValue132
  t164 := Tryz.underlying157
  a164 := Tryz.isAgg157
  z164 := Tryz.sizeOf157
  v164 := Tryz.zeroValue157 }
end Go.Proofs

set_option linter.unusedVariables false
set_option linter.unusedSimpArgs false
set_option maxRecDepth 100000
set_option maxHeartbeats 1000000
namespace Go.Proofs.YtmlmmgeadombbaaGreatDoor
open Go Go.AV Go.M
attribute [local irreducible] OpW OpA OpS AWP FSpec ESpec GSpec OpE RetOk RetOkG RvDen Le Ev GuardIs SrcIs Int.tmod Int.tdiv IntKind.wrap
theorem core_keep {R : RHeap} {w : World} {o : Own} (hr : RLe R w) (ho : Own.ok R w o) : Core (blksOf [o]) w R [o] R w :=
  ⟨rfl, rfl, rfl, Nat.le_refl _, fun _ _ _ => rfl, hr, fun _ _ => rfl, fun q hq => by rw [List.mem_singleton.1 hq]; exact ho, fun q hq b e => .inr ⟨q, hq, e⟩, by
    simp only [List.filterMap_cons, List.filterMap_nil]
    cases Own.blk o <;> simp⟩
theorem strs_flat (l : List Str) : (l.map fun s => [AV.str s]).flatten = l.map AV.str := by
  induction l with
  | nil => rfl
  | cons x l ih => simp [ih]
theorem bytes_back (l : List Str) : (l.map fun s => (⟨s.toArray⟩ : ByteArray)).map (·.data.toList) = l := by
  rw [List.map_map]
  exact (List.map_congr_left fun x _ => rfl : _ = l.map id).trans (List.map_id l)
theorem joinX : Builder.Extra Tryz.prog Tryz.join_ren where
  sizeBuilder := by kernel_rfl
  liesBuilder := by kernel_rfl
  t5 := Tryz.underlying5
  a5 := Tryz.isAgg5
  z5 := Tryz.sizeOf5
  v5 := Tryz.zeroValue5
  infoByte := by kernel_rfl
  cellsByte := by kernel_rfl
  sizeByte := by kernel_rfl
  neB5 := by decide
theorem join_own (v : Value) (l : List Str) (hl : l.length ≤ 1048576) (hs : (joinW l).length ≤ 1048576) : GSpec Tryz.prog 97 [AV.is v, AV.str [59, 32]] [.arr v 9 1 (l.map fun s => [AV.str s])] (fun _ : Unit => True) (fun _ => [.arr v 9 1 (l.map fun s => [AV.str s])]) (fun _ => AV.str (joinW l)) := by
  unfold GSpec
  intro R w vs hr hd hok hnd
  match vs, hd.1 with
  | [u, p], _ =>
    rw [show u = v from hd.2 0 u _ rfl rfl, show p = Value.string ⟨#[59, 32]⟩ from hd.2 1 p _ rfl rfl]
    have ho := hok _ List.mem_cons_self
    obtain ⟨hR, hu, xs, hown, hdc⟩ := ho
    rcases hown.2 with ⟨h1, h2⟩ | ⟨g, cap, cur, h1, _, hg, hn, hm, _⟩
    · have hl0 : l = [] := List.eq_nil_of_length_eq_zero (by simpa using h2)
      subst hl0; subst h1
      refine (Any.strings_Join_none Tryz.join joinX none 0 ⟨#[59, 32]⟩ w).mono fun e w' ⟨he, hw⟩ => ?_
      subst hw
      exact ⟨(), _, R, trivial, he, rfl, core_keep hr (hok _ List.mem_cons_self)⟩
    · subst h1
      have hlen : (l.map fun s => [AV.str s]).length = l.length := List.length_map _
      have hgs : g < w.heap.size := by
        have := hg; exact (Array.getElem?_eq_some_iff.1 this).1
      have hc := Any.strings_Join Tryz.join joinX g 0 cap (l.map fun s => ⟨s.toArray⟩) ⟨#[59, 32]⟩ w (fun j x hx => by
        rw [List.getElem?_map] at hx
        cases hs9 : l[j]? with
        | none => rw [hs9] at hx; cases hx
        | some s =>
          rw [hs9] at hx; injection hx with hx; subst hx
          have hx9 : ((l.map fun s => [AV.str s]).flatten)[j]? = some (AV.str s) := by
            rw [strs_flat, List.getElem?_map, hs9]; rfl
          obtain ⟨g', u9, _, k2, k3, k4, _⟩ := own_cells (hok _ List.mem_cons_self) hx9
          injection k2 with k2; subst k2
          rw [Nat.zero_add, k3, show u9 = Value.string ⟨s.toArray⟩ from k4]) hgs (by rw [List.length_map]; omega) (by rw [List.length_map]; omega) (by
        rw [bytes_back, show (⟨#[59, 32]⟩ : ByteArray).data.toList = [59, 32] from rfl, joinW_lib]; omega)
      rw [bytes_back, show (⟨#[59, 32]⟩ : ByteArray).data.toList = [59, 32] from rfl, joinW_lib, List.length_map] at hc
      rw [hlen]
      refine hc.mono fun e w' ⟨he, hb⟩ => ?_
      subst he
      refine ⟨(), _, R, trivial, rfl, rfl, ?_⟩
      have hcs := core_keep hr (hok _ List.mem_cons_self)
      rw [hlen] at hcs
      exact hcs.step hb (fun b o hbo => by
        have h1 := hr b o hbo
        have hlt : b < w.heap.size := (Array.getElem?_eq_some_iff.1 h1).1
        rw [hb.block b hlt]; exact h1) fun _ _ => rfl
theorem hasVal_spec (k : Int) : FSpec Tryz.prog 44 [AV.int k] (AV.bool (hasValK k)) := by
  refine spec_of_awp Tryz.func44 rfl Tryz.ntmps44 rfl ?_
  refine awp_seq ?_
  refine awp_region ?_
  refine sq_plain rfl rfl rfl (w_assign rfl ev_cb) ?_
  refine sq_nil ?_
  refine awp_seq ?_
  refine awp_region ?_
  refine sq_plain rfl rfl rfl (w_move rfl (ev_tmp rfl)) ?_
  refine sq_plain rfl rfl rfl (w_eql rfl (ev_tmp rfl) ev_ci) ?_
  refine sq_plain rfl rfl rfl (w_move rfl (ev_tmp rfl)) ?_
  refine sq_grd rfl rfl (guard_f rfl rfl rfl) (fun hc => w_move rfl (ev_tmp rfl)) ?_
  refine sq_grd rfl rfl (guard_f rfl rfl rfl) (fun hc => w_eql rfl (ev_whn rfl hc) ev_ci) ?_
  refine sq_plain rfl rfl rfl (w_or rfl (ev_tmp rfl) (evif_w rfl)) ?_
  refine sq_plain rfl rfl rfl (w_assign rfl (ev_tmp rfl)) ?_
  refine sq_nil ?_
  refine awp_ret ?_
  exact retR rfl (rv_tmp' rfl (by first | rfl | (refine congrArg AV.bool ?_; simp_all; done)))
theorem hasBy_spec (k : Int) : FSpec Tryz.prog 45 [AV.int k] (AV.bool (hasByK k)) := by
  refine spec_of_awp Tryz.func45 rfl Tryz.ntmps45 rfl ?_
  refine awp_seq ?_
  refine awp_region ?_
  refine sq_plain rfl rfl rfl (w_assign rfl ev_cb) ?_
  refine sq_nil ?_
  refine awp_seq ?_
  refine awp_region ?_
  refine sq_plain rfl rfl rfl (w_move rfl (ev_tmp rfl)) ?_
  refine sq_plain rfl rfl rfl (w_eql rfl (ev_tmp rfl) ev_ci) ?_
  refine sq_plain rfl rfl rfl (w_move rfl (ev_tmp rfl)) ?_
  refine sq_grd rfl rfl (guard_f rfl rfl rfl) (fun hc => w_move rfl (ev_tmp rfl)) ?_
  refine sq_grd rfl rfl (guard_f rfl rfl rfl) (fun hc => w_eql rfl (ev_whn rfl hc) ev_ci) ?_
  refine sq_plain rfl rfl rfl (w_or rfl (ev_tmp rfl) (evif_w rfl)) ?_
  refine sq_plain rfl rfl rfl (w_assign rfl (ev_tmp rfl)) ?_
  refine sq_nil ?_
  refine awp_ret ?_
  exact retR rfl (rv_tmp' rfl (by first | rfl | (refine congrArg AV.bool ?_; simp_all; done)))
theorem isOp_spec (o : TOp) (hs : o.size ≤ 1048576) : FSpec Tryz.prog 95 [AV.agg o.cs] (AV.bool (isOp o)) := by
  have hs' := hs; unfold TOp.size at hs'
  refine spec_of_awp Tryz.func95 rfl Tryz.ntmps95 rfl ?_
  refine awp_seq ?_
  refine awp_region ?_
  refine sq_box rfl rfl rfl rfl (ev_tmp rfl) ?_
  intro b1
  refine sq_plain rfl rfl rfl (w_assign rfl ev_cb) ?_
  refine sq_nil ?_
  refine awp_seq ?_
  refine awp_region ?_
  refine sq_plain rfl rfl rfl (w_fldBn 0 rfl Tryz.underlying55 rfl Tryz.sizeOf3 (ev_tmp rfl) rfl) ?_
  refine sq_plain rfl rfl rfl (w_loadB1 0 rfl (ev_tmp rfl) rfl Tryz.isAgg3 rfl) ?_
  refine sq_plain rfl rfl rfl (w_call rfl Tryz.call62 rfl (within_spec _ _ _) (evl_cons (ev_tmp rfl) (evl_cons ev_ci (evl_cons ev_ci evl_nil)))) ?_
  refine sq_plain rfl rfl rfl (w_move rfl (ev_tmp rfl)) ?_
  refine sq_grd rfl rfl (guard_t rfl rfl rfl) (fun hc => w_fldBn 1 rfl Tryz.underlying55 rfl Tryz.sizeOf9 (ev_tmp rfl) rfl) ?_
  refine sq_grd rfl rfl (guard_t rfl rfl rfl) (fun hc => w_loadB1 0 rfl (ev_whn rfl hc) rfl Tryz.isAgg9 rfl) ?_
  refine sq_grd rfl rfl (guard_t rfl rfl rfl) (fun hc => w_call rfl Tryz.call118 rfl (goodKey_spec _ (by omega)) (evl_cons (ev_whn rfl hc) evl_nil)) ?_
  refine sq_plain rfl rfl rfl (w_and rfl (ev_tmp rfl) (evif_w rfl)) ?_
  refine sq_plain rfl rfl rfl (w_move rfl (ev_tmp rfl)) ?_
  refine sq_grd rfl rfl (guard_t rfl rfl rfl) (fun hc => w_fldBn 2 rfl Tryz.underlying55 rfl Tryz.sizeOf9 (ev_tmp rfl) rfl) ?_
  refine sq_grd rfl rfl (guard_t rfl rfl rfl) (fun hc => w_loadB1 0 rfl (ev_whn rfl hc) rfl Tryz.isAgg9 rfl) ?_
  refine sq_grd rfl rfl (guard_t rfl rfl rfl) (fun hc => w_call rfl Tryz.call138 rfl (goodVal_spec _ (by omega)) (evl_cons (ev_whn rfl hc) evl_nil)) ?_
  refine sq_plain rfl rfl rfl (w_and rfl (ev_tmp rfl) (evif_w rfl)) ?_
  refine sq_plain rfl rfl rfl (w_move rfl (ev_tmp rfl)) ?_
  refine sq_grd rfl rfl (guard_t rfl rfl rfl) (fun hc => w_fldBn 0 rfl Tryz.underlying55 rfl Tryz.sizeOf3 (ev_tmp rfl) rfl) ?_
  refine sq_grd rfl rfl (guard_t rfl rfl rfl) (fun hc => w_loadB1 0 rfl (ev_whn rfl hc) rfl Tryz.isAgg3 rfl) ?_
  refine sq_grd rfl rfl (guard_t rfl rfl rfl) (fun hc => w_call rfl Tryz.call44 rfl (hasVal_spec _) (evl_cons (ev_whn rfl hc) evl_nil)) ?_
  refine sq_grd rfl rfl (guard_t rfl rfl rfl) (fun hc => w_move rfl (ev_whn rfl hc)) ?_
  refine sq_grd rfl rfl (guard_wf rfl rfl rfl) (fun hc => w_fldBn 2 rfl Tryz.underlying55 rfl Tryz.sizeOf9 (ev_tmp rfl) rfl) ?_
  refine sq_grd rfl rfl (guard_wf rfl rfl rfl) (fun hc => w_loadB1 0 rfl (ev_whn rfl hc) rfl Tryz.isAgg9 rfl) ?_
  refine sq_grd rfl rfl (guard_wf rfl rfl rfl) (fun hc => w_seql rfl (ev_whn rfl hc) (ev_cs' (l := []) rfl)) ?_
  refine sq_grd rfl rfl (guard_t rfl rfl rfl) (fun hc => w_or rfl (ev_whn rfl hc) (evif_w2 rfl hc)) ?_
  refine sq_plain rfl rfl rfl (w_and rfl (ev_tmp rfl) (evif_w rfl)) ?_
  refine sq_plain rfl rfl rfl (w_move rfl (ev_tmp rfl)) ?_
  refine sq_grd rfl rfl (guard_t rfl rfl rfl) (fun hc => w_fldBn 3 rfl Tryz.underlying55 rfl Tryz.sizeOf3 (ev_tmp rfl) rfl) ?_
  refine sq_grd rfl rfl (guard_t rfl rfl rfl) (fun hc => w_loadB1 0 rfl (ev_whn rfl hc) rfl Tryz.isAgg3 rfl) ?_
  refine sq_grd rfl rfl (guard_t rfl rfl rfl) (fun hc => w_call rfl Tryz.call62 rfl (within_spec _ _ _) (evl_cons (ev_whn rfl hc) (evl_cons ev_ci (evl_cons ev_ci evl_nil)))) ?_
  refine sq_plain rfl rfl rfl (w_and rfl (ev_tmp rfl) (evif_w rfl)) ?_
  refine sq_plain rfl rfl rfl (w_move rfl (ev_tmp rfl)) ?_
  refine sq_grd rfl rfl (guard_t rfl rfl rfl) (fun hc => w_fldBn 0 rfl Tryz.underlying55 rfl Tryz.sizeOf3 (ev_tmp rfl) rfl) ?_
  refine sq_grd rfl rfl (guard_t rfl rfl rfl) (fun hc => w_loadB1 0 rfl (ev_whn rfl hc) rfl Tryz.isAgg3 rfl) ?_
  refine sq_grd rfl rfl (guard_t rfl rfl rfl) (fun hc => w_call rfl Tryz.call45 rfl (hasBy_spec _) (evl_cons (ev_whn rfl hc) evl_nil)) ?_
  refine sq_grd rfl rfl (guard_t rfl rfl rfl) (fun hc => w_move rfl (ev_whn rfl hc)) ?_
  refine sq_grd rfl rfl (guard_wf rfl rfl rfl) (fun hc => w_fldBn 3 rfl Tryz.underlying55 rfl Tryz.sizeOf3 (ev_tmp rfl) rfl) ?_
  refine sq_grd rfl rfl (guard_wf rfl rfl rfl) (fun hc => w_loadB1 0 rfl (ev_whn rfl hc) rfl Tryz.isAgg3 rfl) ?_
  refine sq_grd rfl rfl (guard_wf rfl rfl rfl) (fun hc => w_eql rfl (ev_whn rfl hc) ev_ci) ?_
  refine sq_grd rfl rfl (guard_t rfl rfl rfl) (fun hc => w_or rfl (ev_whn rfl hc) (evif_w2 rfl hc)) ?_
  refine sq_plain rfl rfl rfl (w_and rfl (ev_tmp rfl) (evif_w rfl)) ?_
  refine sq_plain rfl rfl rfl (w_assign rfl (ev_tmp rfl)) ?_
  refine sq_nil ?_
  refine awp_ret ?_
  exact retR rfl (rv_tmp' rfl (by first | rfl | (refine congrArg AV.bool ?_; simp_all; done)))
theorem goodOps1_spec (c : TOp) (hs : c.size ≤ 1048576) : FSpec Tryz.prog 94 [AV.agg c.cs] (AV.bool (!isOp c)) := by
  refine spec_of_awp Tryz.func94 rfl Tryz.ntmps94 rfl ?_
  refine awp_seq ?_
  refine awp_region ?_
  refine sq_box rfl rfl rfl rfl (ev_tmp rfl) ?_
  intro b1
  refine sq_plain rfl rfl rfl (w_assign rfl ev_cb) ?_
  refine sq_nil ?_
  refine awp_seq ?_
  refine awp_region ?_
  refine sq_plain rfl rfl rfl (w_loadA 0 rfl (ev_tmp rfl) rfl Tryz.isAgg55 Tryz.sizeOf55 rfl) ?_
  refine sq_plain rfl rfl rfl (w_call rfl Tryz.call95 rfl (isOp_spec _ (by first | assumption | omega)) (evl_cons (ev_tmp rfl) evl_nil)) ?_
  refine sq_plain rfl rfl rfl (w_not rfl (ev_tmp rfl)) ?_
  refine sq_plain rfl rfl rfl (w_assign rfl (ev_tmp rfl)) ?_
  refine sq_nil ?_
  refine awp_ret ?_
  exact retR rfl (rv_tmp' rfl (by first | rfl | (refine congrArg AV.bool ?_; simp_all; done)))
theorem goodOps_spec (l : List TOp) (hs : sizeL TOp.size l ≤ 1048576) : FSpec Tryz.prog 37 [AV.list 4 (l.map TOp.cs)] (AV.bool (goodOps l)) := by
  have hm : ∀ x ∈ l, x.size ≤ 1048576 := fun x hx => Nat.le_trans (sizeL_mem hx) hs
  refine spec_of_awp Tryz.func37 rfl Tryz.ntmps37 rfl ?_
  refine awp_seq ?_
  refine awp_region ?_
  refine sq_plain rfl rfl rfl (w_assign rfl ev_cb) ?_
  refine sq_nil ?_
  refine awp_seq ?_
  refine awp_region ?_
  refine sq_plain rfl rfl rfl (w_move rfl (ev_tmp rfl)) ?_
  refine sq_plain rfl rfl rfl (w_llen rfl Tryz.underlying24 (ev_tmp rfl)) ?_
  refine sq_plain rfl rfl rfl (w_leq rfl (ev_tmp rfl) ev_ci) ?_
  refine sq_plain rfl rfl rfl (w_move rfl (ev_tmp rfl)) ?_
  refine sq_grd rfl rfl (guard_t rfl rfl rfl) (fun hc => w_move rfl (ev_tmp rfl)) ?_
  refine sq_grd rfl rfl (guard_t rfl rfl rfl) (fun hc => w_call rfl Tryz.call93 rfl (containsFuncOp_spec _ _ _ (by first | (intros; trivial) | assumption | (intros; first | trivial | (simp_all; done)))) (evl_cons (ev_whn rfl hc) (evl_cons (ev_fun1 Tryz.call94 (fun c h => goodOps1_spec c h)) evl_nil))) ?_
  refine sq_grd rfl rfl (guard_t rfl rfl rfl) (fun hc => w_not rfl (ev_whn rfl hc)) ?_
  refine sq_plain rfl rfl rfl (w_and rfl (ev_tmp rfl) (evif_w rfl)) ?_
  refine sq_plain rfl rfl rfl (w_assign rfl (ev_tmp rfl)) ?_
  refine sq_nil ?_
  refine awp_ret ?_
  exact retR rfl (rv_tmp' rfl (by exact congrArg AV.bool (by simp only [List.length_map]; rfl)))
theorem opWords_spec : FSpec Tryz.prog 43 [] (AV.list 1 (opWs.map fun s => [AV.str s])) := by
  refine spec_of_awp Tryz.func43 rfl Tryz.ntmps43 rfl ?_
  refine awp_seq ?_
  refine awp_region ?_
  refine sq_plain rfl rfl rfl (w_assign rfl (ev_cnil (sz := 1))) ?_
  refine sq_nil ?_
  refine awp_seq ?_
  refine awp_region ?_
  refine sq_plain rfl rfl rfl (w_bslice rfl Tryz.underlying34 Tryz.sizeOf9 Tryz.zeroValue9 rfl rfl rfl rfl (bp_cons (ev_cs' (l := []) rfl) (as_str _) (bp_cons (ev_cs' (l := [114, 101, 97, 100]) rfl) (as_str _) (bp_cons (ev_cs' (l := [112, 117, 116]) rfl) (as_str _) (bp_cons (ev_cs' (l := [100, 114, 111, 112]) rfl) (as_str _) (bp_cons (ev_cs' (l := [97, 100, 100]) rfl) (as_str _) (bp_cons (ev_cs' (l := [110, 101, 101, 100]) rfl) (as_str _) (bp_cons (ev_cs' (l := [108, 97, 99, 107]) rfl) (as_str _) (bp_cons (ev_cs' (l := [105, 115]) rfl) (as_str _) bp_nil)))))))) rfl rfl) ?_
  refine sq_plain rfl rfl rfl (w_assign rfl (ev_tmp rfl)) ?_
  refine sq_nil ?_
  refine awp_ret ?_
  exact retR rfl (rv_tmp' rfl (by first | rfl | (refine congrArg AV.bool ?_; simp_all; done)))
theorem l5Words_spec : FSpec Tryz.prog 99 [] (AV.list 1 (opWs.map fun s => [AV.str s])) := by
  refine spec_of_awp Tryz.func99 rfl Tryz.ntmps99 rfl ?_
  refine awp_seq ?_
  refine awp_region ?_
  refine sq_plain rfl rfl rfl (w_assign rfl (ev_cnil (sz := 1))) ?_
  refine sq_nil ?_
  refine awp_seq ?_
  refine awp_region ?_
  refine sq_plain rfl rfl rfl (w_bslice rfl Tryz.underlying34 Tryz.sizeOf9 Tryz.zeroValue9 rfl rfl rfl rfl (bp_cons (ev_cs' (l := []) rfl) (as_str _) (bp_cons (ev_cs' (l := [114, 101, 97, 100]) rfl) (as_str _) (bp_cons (ev_cs' (l := [112, 117, 116]) rfl) (as_str _) (bp_cons (ev_cs' (l := [100, 114, 111, 112]) rfl) (as_str _) (bp_cons (ev_cs' (l := [97, 100, 100]) rfl) (as_str _) (bp_cons (ev_cs' (l := [110, 101, 101, 100]) rfl) (as_str _) (bp_cons (ev_cs' (l := [108, 97, 99, 107]) rfl) (as_str _) (bp_cons (ev_cs' (l := [105, 115]) rfl) (as_str _) bp_nil)))))))) rfl rfl) ?_
  refine sq_plain rfl rfl rfl (w_assign rfl (ev_tmp rfl)) ?_
  refine sq_nil ?_
  refine awp_ret ?_
  exact retR rfl (rv_tmp' rfl (by first | rfl | (refine congrArg AV.bool ?_; simp_all; done)))
theorem indexS_spec (l : List Str) (s : Str) : FSpec Tryz.prog 42 [AV.list 1 (l.map fun s => [AV.str s]), AV.str s] (AV.int (idxF l s 0)) := by
  refine spec_of_awp Tryz.func42 rfl Tryz.ntmps42 rfl ?_
  refine awp_len (t := 0) rfl fun hl => ?_
  try simp only [List.length_map] at hl
  refine awp_seq ?_
  refine awp_region ?_
  refine sq_plain rfl rfl rfl (w_assign rfl ev_ci) ?_
  refine sq_nil ?_
  refine awp_seq ?_
  refine awp_seq ?_
  refine awp_region ?_
  refine sq_plain rfl rfl rfl (w_move rfl (ev_tmp rfl)) ?_
  refine sq_plain rfl rfl rfl (w_llen rfl Tryz.underlying34 (ev_tmp rfl)) ?_
  refine sq_plain rfl rfl rfl (w_move rfl ev_ci) ?_
  refine sq_nil ?_
  refine awp_block ?_
  refine awp_loop_i [(0, _), (1, _), (7, _)] _ (fun (i : Nat) => i ≤ l.length ∧ idxF l s 0 = idxF (l.drop i) s i) (fun (i : Nat) => []) (fun (i : Nat) => [(8, AV.int i)]) (fun (i : Nat) => l.length - i) (0) ?_ (le_env ⟨rfl, rfl, rfl, rfl, trivial⟩) ?_
  · exact ⟨Nat.zero_le _, rfl⟩
  intro i hinv
  refine awp_seq ?_
  refine awp_region ?_
  refine sq_plain rfl rfl rfl (w_lss rfl (ev_tmp rfl) (ev_tmp rfl)) ?_
  refine sq_nil ?_
  refine awp_seq ?_
  refine awp_cond (ev_tmp rfl) ?_ ?_
  · intro h9
    have k9 := of_decide_eq_true h9; try simp only [List.length_map] at k9
    have hlt : i < l.length := by omega
    obtain ⟨x, hx⟩ := get_some hlt
    refine awp_skip ?_
    refine awp_seq ?_
    refine awp_block ?_
    refine awp_seq ?_
    refine awp_region ?_
    refine sq_plain rfl rfl rfl (w_move rfl (ev_tmp rfl)) ?_
    refine sq_plain rfl rfl rfl (w_assign rfl (ev_tmp rfl)) ?_
    refine sq_nil ?_
    refine awp_seq ?_
    refine awp_region ?_
    refine sq_plain rfl rfl rfl (w_move rfl (ev_tmp rfl)) ?_
    refine sq_plain rfl rfl rfl (w_move rfl (ev_tmp rfl)) ?_
    refine sq_plain rfl rfl rfl (w_move rfl (ev_tmp rfl)) ?_
    refine sq_plain rfl rfl rfl (w_idx rfl Tryz.underlying34 Tryz.sizeOf9 (ev_tmp rfl) (ev_tmp rfl) (by omega) (by simp only [Int.toNat_natCast, List.getElem?_map, hx, Option.map_some]; try rfl)) ?_
    refine sq_plain rfl rfl rfl (w_loadE1 rfl (ev_tmp rfl) Tryz.isAgg9 rfl) ?_
    refine sq_plain rfl rfl rfl (w_seql rfl (ev_tmp rfl) (ev_tmp rfl)) ?_
    refine sq_nil ?_
    refine awp_cond (ev_tmp rfl) ?_ ?_
    · intro h16
      rw [hinv.2, idxF_here hx (by simpa using h16)]
      refine awp_seq ?_
      refine awp_region ?_
      refine sq_plain rfl rfl rfl (w_move rfl (ev_tmp rfl)) ?_
      refine sq_plain rfl rfl rfl (w_assign rfl (ev_tmp rfl)) ?_
      refine sq_nil ?_
      refine awp_ret ?_
      exact retR rfl (rv_tmp' rfl (by rfl))
    · intro h16
      refine awp_skip ?_
      refine awp_region ?_
      refine sq_plain rfl rfl rfl (w_addi rfl (ev_tmp rfl) ev_ci (by first | omega | ((try simp only [List.length_map, List.length_take, List.length_cons, List.length_nil, chunks_len, szR] at *); omega) | (have hc2 := hc; simp only [Bool.and_eq_true, Bool.or_eq_true, Bool.or_eq_false_iff, Bool.and_eq_false_iff, Bool.not_eq_true', Bool.not_eq_false', decide_eq_true_eq, decide_eq_false_iff_not, beq_iff_eq, bne_iff_ne, List.length_map, List.length_take] at hc2; omega))) ?_
      refine sq_plain rfl rfl rfl (w_move rfl (ev_tmp rfl)) ?_
      refine sq_nil ?_
      refine round_end i (i + 1) ?_ ?_ (le_env ⟨rfl, rfl, rfl, rfl, trivial⟩)
      · exact ⟨by omega, by rw [hinv.2]; exact idxF_next hx (by simpa using h16)⟩
      · omega
  · intro h9
    have k9 := of_decide_eq_false h9; try simp only [List.length_map] at k9
    have hge : l.length ≤ i := by omega
    rw [hinv.2, idxF_end hge]
    refine awp_exit ?_
    refine awp_seq ?_
    refine awp_region ?_
    refine sq_plain rfl rfl rfl (w_assign rfl ev_ci) ?_
    refine sq_nil ?_
    refine awp_ret ?_
    exact retR rfl (rv_tmp' rfl (by rfl))
end Go.Proofs.YtmlmmgeadombbaaGreatDoor
