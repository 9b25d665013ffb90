/- The library's sort as a contract over what is owned: integers, strings, structs. -/
import Derived.Test.YteliahajeokciaaAvG
import Derived.Sort.OwnSortedInts
import Derived.Sort.EncStr
import Derived.Shelf.GgSortFunc.RowK
set_option linter.unusedVariables false
set_option linter.unusedSimpArgs false
namespace Go.AV
open Go.Sort

theorem core_row {R : RHeap} {w w' : World} {v : Value} {g : Nat} {t : TypeId} {sz : Nat} {es es' : List (List AV)} {xs : List Value} (hb : v.ownBlock = some g) (hr : RLe R w) (hR : R g = none) (hg : w.grownBy w' (some g))
    (hown : w'.ownsRow 0 t sz v es'.length xs) (hd : DenC R xs es'.flatten) (hsz : ∀ e ∈ es', e.length = sz) :
    Core (blksOf [.arr v t sz es]) w R [.arr v t sz es'] R w' := by
  refine ⟨hg.os, hg.tape, hg.output, hg.size, fun k hk hG => hg.block k hk fun e => hG ⟨_, List.mem_singleton.2 rfl, ?_⟩, fun b o hbo => ?_, fun _ _ => rfl, fun o ho => ?_, fun o ho b e => ?_, ?_⟩
  · injection e with e; subst e; exact hb
  · have h1 := hr b o hbo
    have hlt : b < w.heap.size := (Array.getElem?_eq_some_iff.1 h1).1
    rw [hg.block b hlt fun e => by injection e with e; subst e; rw [hR] at hbo; cases hbo]; exact h1
  · rw [List.mem_singleton.1 ho]
    exact ⟨fun b e => by rw [hb] at e; injection e with e; subst e; exact hR, hsz, xs, hown, hd⟩
  · rw [List.mem_singleton.1 ho] at e
    exact .inr ⟨_, List.mem_singleton.2 rfl, e⟩
  · simp [Own.blk, hb]
theorem core_same {R : RHeap} {w : World} {o : Own} (hr : RLe R w) (ho : Own.ok R w o) : Core (blksOf [o]) w R [o] R w :=
  ⟨rfl, rfl, rfl, Nat.le_refl _, fun _ _ _ => rfl, hr, fun _ _ => rfl, fun q hq => by rw [List.mem_singleton.1 hq]; exact ho, fun q hq b e => .inr ⟨q, hq, e⟩, by
    simp only [List.filterMap_cons, List.filterMap_nil]
    cases Own.blk o <;> simp⟩
theorem denC_is {R : RHeap} {vs ys : List Value} (h : DenC R vs (ys.map AV.is)) : vs = ys := by
  refine List.ext_getElem? fun i => ?_
  have hl := h.1
  rw [List.length_map] at hl
  by_cases hi : i < ys.length
  · have h1 : vs[i]? = some vs[i] := List.getElem?_eq_getElem (by omega)
    have h2 : (ys.map AV.is)[i]? = some (AV.is ys[i]) := by rw [List.getElem?_map, List.getElem?_eq_getElem hi]; rfl
    have h3 := (h.2 i _ _ h1 h2).1
    rw [h1, List.getElem?_eq_getElem hi]
    exact congrArg some h3
  · rw [List.getElem?_eq_none (by omega), List.getElem?_eq_none (by omega)]
theorem denC_mk {R : RHeap} {ys : List Value} (h : ∀ y ∈ ys, y.oneCell' = true) : DenC R ys (ys.map AV.is) := by
  refine ⟨by rw [List.length_map], fun i v x hv hx => ?_⟩
  rw [List.getElem?_map, hv] at hx
  injection hx with hx; subst hx
  exact ⟨rfl, h v (List.mem_of_getElem? hv)⟩
theorem flatone_map {α : Type} (c : α → AV) (l : List α) : (l.map fun n => [c n]).flatten = l.map c := by
  induction l with
  | nil => rfl
  | cons x l ih => simp [ih]
theorem flat_cs {α : Type} {c : α → List AV} {enc : α → List Value} (hc : ∀ x, c x = (enc x).map AV.is) (l : List α) : (l.map c).flatten = ((l.map enc).flatten).map AV.is := by
  induction l with
  | nil => rfl
  | cons x l ih => simp [ih, hc]
section ordered
variable {P : Program} {f : FuncId} {t : TypeId} {α : Type} [Inhabited α]
/-- One cell an element: the row rewritten to ts. -/
theorem row_own1 (enc : α → Value) (h1c : ∀ x, (enc x).oneCell' = true) (srt : List α → List α) (hsl : ∀ l, (srt l).length = l.length)
    (h1 : ∀ (blk off cap : Nat) (zs : List α) (w : World), Holds enc w blk off zs.toArray → blk < w.heap.size → zs.length < 4611686018427387904 →
      Calls P f #[.slice (some ⟨blk, off, none⟩) zs.length cap] w fun e w' => e = .returned (.tuple #[]) ∧ ∃ n os, w' = grow (putRow enc (Sort.ahead w n) blk off (srt zs).toArray) os)
    (h0 : ∀ (p : Option Addr) (cap : Nat) (w : World), Calls P f #[.slice p 0 cap] w fun e w' => e = .returned (.tuple #[]) ∧ w' = w)
    (v : Value) (l : List α) (hl : l.length < 4611686018427387904) :
    GSpec P f [AV.is v] [.arr v t 1 (l.map fun n => [AV.is (enc n)])] (fun _ : Unit => True) (fun _ => [.arr v t 1 ((srt l).map fun n => [AV.is (enc n)])]) (fun _ => AV.tup []) := by
  intro R w vs hr hd hok hnd
  have hvs : vs = [v] := by
    obtain ⟨hlen, hval⟩ := hd
    cases vs with
    | nil => simp at hlen
    | cons a r =>
      cases r with
      | nil => have h9 := hval 0 a (AV.is v) rfl rfl; rw [show a = v from h9]
      | cons b r => simp at hlen
  subst hvs
  have ho := hok _ (List.mem_singleton.2 rfl)
  obtain ⟨hR, hsz, xs, hown, hden⟩ := ho
  have hxs : xs = l.map enc := by
    rw [flatone_map (fun n => AV.is (enc n))] at hden
    have h9 : l.map (fun n => AV.is (enc n)) = (l.map enc).map AV.is := by simp
    rw [h9] at hden
    exact denC_is hden
  rw [List.length_map] at hown
  rcases hown.2 with ⟨hv, hn⟩ | ⟨g, cap, cur, hv, _, hg, hnc, hcm, hcs, htk⟩
  · have hl0 : l = [] := List.length_eq_zero_iff.1 hn
    subst hv; subst hl0
    have hs0 : srt [] = [] := List.length_eq_zero_iff.1 (hsl [])
    refine (h0 none 0 w).mono ?_
    rintro e w' ⟨rfl, rfl⟩
    refine ⟨(), _, R, trivial, rfl, ⟨[], rfl, DenV.nil _⟩, ?_⟩
    rw [hs0]
    exact core_same hr (hok _ (List.mem_singleton.2 rfl))
  · subst hv
    have hgl : g < w.heap.size := (Array.getElem?_eq_some_iff.1 hg).1
    rw [Nat.mul_one] at htk hcs
    have hH : Holds enc w g 0 l.toArray := fun j hj => by
      have hj' : j < l.length := by simpa using hj
      have h9 : cur.toList[j]? = some (enc l[j]) := by
        rw [← List.getElem?_take_of_lt hj', htk, hxs, List.getElem?_map, List.getElem?_eq_getElem hj']; rfl
      refine ⟨?_, by simp [World.frozen?, hg]⟩
      simp only [World.cell?, hg, Nat.zero_add]
      simp only [Option.isSome_none, Bool.false_eq_true, if_false]
      rw [← Array.getElem?_toList, h9]
      simp [hj']
    refine (h1 g 0 cap l w hH hgl hl).mono ?_
    rintro e w' ⟨rfl, n, os, rfl⟩
    refine ⟨(), _, R, trivial, rfl, ⟨[], rfl, DenV.nil _⟩, ?_⟩
    have hgb : w.grownBy (grow (putRow enc (Sort.ahead w n) g 0 (srt l).toArray) os) (some g) := by
      refine ⟨rfl, rfl, rfl, by simp, fun k hk hne => ?_⟩
      rw [heap_grow_old _ _ (by simpa using hk)]
      have h9 : g ≠ k := fun e => hne (by rw [e])
      simp [putRow, mapBlock, Sort.ahead, Array.getElem?_modify, h9]
    have hheap : (grow (putRow enc (Sort.ahead w n) g 0 (srt l).toArray) os).heap[g]? = some (.cells (putCells enc 0 (srt l).toArray cur) t (0, 0)) := by
      rw [heap_grow_old _ _ (by simpa using hgl)]
      simp [putRow, mapBlock, Sort.ahead, Array.getElem?_modify, hg, onCells]
    refine core_row (g := g) (xs := (srt l).map enc) rfl hr (hR g rfl) hgb ?_ ?_ ?_
    · rw [List.length_map, hsl]
      refine ⟨by simp [hsl], .inr ⟨g, cap, _, rfl, Nat.zero_le _, hheap, hnc, hcm, by simp [putCells, hcs], ?_⟩⟩
      apply List.ext_getElem?
      intro j
      by_cases hj : j < l.length
      · rw [List.getElem?_take_of_lt (by omega), Array.getElem?_toList]
        have h8 : j < (srt l).length := by rw [hsl]; exact hj
        simp [putCells, h8, show j < cur.size by omega]
      · rw [List.getElem?_take_eq_none (by omega), List.getElem?_eq_none (by simp [hsl]; omega)]
    · rw [flatone_map (fun n => AV.is (enc n))]
      have h9 : (srt l).map (fun n => AV.is (enc n)) = ((srt l).map enc).map AV.is := by simp
      rw [h9]
      exact denC_mk fun y hy => by obtain ⟨x, _, rfl⟩ := List.mem_map.1 hy; exact h1c x
    · intro e he; obtain ⟨x, _, rfl⟩ := List.mem_map.1 he; rfl
end ordered
end Go.AV
